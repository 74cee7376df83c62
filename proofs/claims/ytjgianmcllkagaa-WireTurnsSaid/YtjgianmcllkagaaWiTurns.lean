/- WireTurns: what is sealed is opened; with one byte turned it isn't. -/
import Derived.Test.YtjgianmcllkagaaWiTurnMath
set_option linter.unusedVariables false
set_option linter.unusedSimpArgs false
namespace Go.Proofs.Ytjgianmcllkagaa.Wi
open Go.RowKit Go.Proofs.YtjgianmcllkagaaW.PrintWords Go.Proofs.YtjgianmcllkagaaW.PrintLast Go.Proofs.YtjgianmcllkagaaW.PrintMore
attribute [local go_sem] max2_int min2_int max_two min_two max_three min_three max_four min_four
theorem OI.shape {k : IntKind} {e : TypeId} {w0 W : World} {v : Value} {xs : List Int} (h : OI k e w0 W v xs) (hp : 0 < xs.length) : ∃ g c, v = .slice (some ⟨g, 0, none⟩) xs.length c ∧ w0.heap.size ≤ g := by
  obtain ⟨_, h2⟩ := Kd.own_of_R h.r
  rcases h2 with ⟨_, h3⟩ | ⟨g, cap, cur, h3, h4, _⟩
  · omega
  · exact ⟨g, cap, h3, h4⟩
theorem OI.put {k : IntKind} {e : TypeId} {w0 W : World} {g c n : Nat} {xs : List Int} (h : OI k e w0 W (.slice (some ⟨g, 0, none⟩) n c) xs) (i : Nat) (x : Int) : OI k e w0 (W.setCell ⟨g, i, none⟩ (.int k x)) (.slice (some ⟨g, 0, none⟩) n c) (xs.set i x) :=
  ⟨Kd.R_putn h.r (i : Int) x, below_set h.bel (h.r.1 g rfl)⟩
theorem OI.cell {k : IntKind} {e : TypeId} {w0 W : World} {g c n : Nat} {xs : List Int} (h : OI k e w0 W (.slice (some ⟨g, 0, none⟩) n c) xs) {i : Nat} (hi : i < n) : W.cell? ⟨g, i, none⟩ = some (.int k (rd xs i)) ∧ W.frozen? ⟨g, i, none⟩ = false := by
  exact Kd.R_celln (0 : Int) h.r (i : Int) (by omega) (by omega)
theorem OI.ci {k : IntKind} {e : TypeId} {w0 W : World} {A : Option Addr} {c n : Nat} {xs : List Int} (h : OI k e w0 W (.slice A n c) xs) : CI k W A c xs := by
  obtain ⟨A', c', e, hc⟩ := h.reads
  injection e with e1 e2 e3
  subst e1 e3
  exact hc
theorem u64_of {x : Int} (h0 : 0 ≤ x) (h1 : x < 18446744073709551616) : IntKind.u64.wrap x = x := by
  simp only [IntKind.wrap, IntKind.bits, IntKind.signed]
  simp
  omega
theorem wireTurns_any (A : Option Addr) (m c : Nat) (xs : List Int) (hn : m = xs.length) (hl : xs.length ≤ maxLen) (at_ b : Int) (w : World) (h : CI .u8 w A c xs) (hf : WF xs) (hb : 0 ≤ b ∧ b < 256) :
    Calls Try.prog 8 #[.slice A m c, .int .i64 at_, .int .u8 b] w fun e w' => e = .returned (.bool true) ∧ Below w.heap.size w w' := by
  subst hn
  obtain ⟨ys, h1, h2, h3, h4⟩ := few_ci h hf hl
  have HF := Aside0.mk h4
  have HC := Aside0.mk h1
  have HW := Aside0.mk h2
  have SA : ∀ w, CI .u8 w A c ys → Calls Try.prog 23 #[.slice A ys.length c] w fun e w' => ∃ g c', e = .returned (.slice (some ⟨g, 0, none⟩) (ys.length + 2) c') ∧ OI .u8 5 w w' (.slice (some ⟨g, 0, none⟩) (ys.length + 2) c') (sealB ys) := fun w hc => by
    refine (seal_any hc h2 (by omega)).mono ?_
    rintro e w' ⟨r, rfl, ho⟩
    obtain ⟨g, c', rfl, _⟩ := ho.shape (by simp [putB])
    have e : (ys ++ putB 2 (sumB ys)).length = ys.length + 2 := sealB_len ys
    rw [e] at ho ⊢
    exact ⟨g, c', rfl, ho⟩
  have OA : ∀ w A c, CI .u8 w A c (sealB ys) → Calls Try.prog 25 #[.slice A (ys.length + 2) c] w fun e w' => ∃ A' c', e = .returned (.tuple #[.slice A' ys.length c', .int .i64 0]) ∧ CI .u8 w' A' c' ys ∧ Below w.heap.size w w' := fun w A c hc => by
    have := open_any hc (sealB_wf h2) (by rw [sealB_len]; omega)
    rw [sealB_len, opE_seal, opB_seal] at this
    refine this.mono ?_
    rintro e w' ⟨r, rfl, ho⟩
    obtain ⟨A1, c1, rfl, h1⟩ := ho.reads
    exact ⟨A1, c1, rfl, h1, ho.bel⟩
  obtain ⟨k, hk⟩ : ∃ k : Nat, (k : Int) = IntKind.u64.wrap at_ % ((ys.length : Int) + 2) := ⟨(IntKind.u64.wrap at_ % ((ys.length : Int) + 2)).toNat, by have := u64_nn at_; have := Int.emod_nonneg (IntKind.u64.wrap at_) (show (ys.length : Int) + 2 ≠ 0 by omega); omega⟩
  have hkl : k < ys.length + 2 := by have := Int.emod_lt_of_pos (IntKind.u64.wrap at_) (show 0 < (ys.length : Int) + 2 by omega); omega
  have hrd := wf_rd (sealB_wf h2) (i := k) (by rw [sealB_len]; exact hkl)
  obtain ⟨hy, hyb⟩ := xor_byte hrd hb
  have hot := opE_turn h2 hkl hy
  have OB : ∀ w A c, CI .u8 w A c ((sealB ys).set k (bits .xor .u8 (rd (sealB ys) k) b)) → Calls Try.prog 25 #[.slice A (ys.length + 2) c] w fun e w' => ∃ v, e = .returned (.tuple #[v, .int .i64 (if b = 0 then 0 else 8)]) ∧ Below w.heap.size w w' := fun w A c hc => by
    have hwf : WF ((sealB ys).set k (bits .xor .u8 (rd (sealB ys) k) b)) := fun x hx => by
      rcases List.mem_or_eq_of_mem_set hx with hx | hx
      · exact sealB_wf h2 x hx
      · rw [hx]; exact hy
    have hlen : ((sealB ys).set k (bits .xor .u8 (rd (sealB ys) k) b)).length = ys.length + 2 := by rw [List.length_set, sealB_len]
    have := open_any hc hwf (by rw [hlen]; omega)
    rw [hlen, hot] at this
    refine this.mono ?_
    rintro e w' ⟨r, rfl, ho⟩
    refine ⟨r, ?_, ho.bel⟩
    by_cases hz : b = 0
    · rw [if_pos hz, if_pos (hyb.2 hz)]
    · rw [if_neg hz, if_neg (fun h => hz (hyb.1 h))]
  clear h hf hl h4 h1 h2 hy hyb hot hrd
  have hw : IntKind.u64.wrap ((ys.length : Int) + 2) = (ys.length : Int) + 2 := u64_of (by omega) (by omega)
  have hw2 : wrap64 (Int.tmod (IntKind.u64.wrap at_) ((ys.length : Int) + 2)) = (k : Int) := by
    rw [Int.tmod_eq_emod_of_nonneg (u64_nn at_), ← hk, w64 (by omega) (by omega)]
  clear hk
  generalize sealB ys = zs at *
  have bz : ((strOfNums ys).toList == (strOfNums ys).toList) = true := beq_self_eq_true _
  replace SA := Aside0.mk SA
  replace OA := Aside0.mk OA
  replace OB := Aside0.mk OB
  have HW1 := Aside0.mk hw
  have HW2 := Aside0.mk hw2
  have hk0 : 0 ≤ (k : Int) := by omega
  have hk1 : (k : Int) < (ys.length : Int) + 2 := by omega
  have hk2 : (k : Int) < ((ys.length + 2 : Nat) : Int) := by omega
  clear hw hw2
  obtain ⟨f, hf⟩ : ∃ f : Int, (if b = 0 then (0 : Int) else 8) = f := ⟨_, rfl⟩
  rw [hf] at OB
  by_cases hz : b = 0
  · rw [if_pos hz] at hf
    subst hf hz
    clear hb
    go_enter Try.func8, Try.ntmps8
    go_wp2_with (first | (go_at_call 9; refine (lives_any _).mono ?_; rintro e w1 ⟨rfl, hb⟩; have HB := Aside0.mk hb; clear hb) | (go_at_call 10; refine (HF.out _ HB.out).mono ?_; rintro e w' ⟨rfl, rfl⟩) | (go_at_call 23; refine (SA.out _ (HC.out.below HB.out)).mono ?_; clear SA; rintro e w2 ⟨g, c1, rfl, ho⟩; have HO := Aside0.mk (ho.less HB.out); clear ho) | (go_at_call 25; refine (OA.out _ _ _ HO.out.ci).mono ?_; clear OA; rintro e w3 ⟨A2, c2, rfl, hc2, hb⟩; have k1 := hc2.str; replace HO := Aside0.mk (HO.out.far hb); have k2 := (HC.out.below HO.out.bel).str; have s1 := (HO.out.cell hkl).1; have s2 := (HO.out.cell hkl).2; clear hb hc2) | (go_at_call 25; refine (OB.out _ _ _ (HO.out.put k _).ci).mono ?_; clear OB; rintro e w4 ⟨v, rfl, hb4⟩; have HB4 := Aside0.mk (below_step (HO.out.put k _).bel hb4); clear hb4) | (rw [HW2.out]))
    go_ret
    exact ⟨rfl, HB4.out⟩
  · rw [if_neg hz] at hf
    subst hf
    have hz2 : (b == 0) = false := beq_eq_false_iff_ne.mpr hz
    clear hb hz
    go_enter Try.func8, Try.ntmps8
    go_wp2_with (first | (go_at_call 9; refine (lives_any _).mono ?_; rintro e w1 ⟨rfl, hb⟩; have HB := Aside0.mk hb; clear hb) | (go_at_call 10; refine (HF.out _ HB.out).mono ?_; rintro e w' ⟨rfl, rfl⟩) | (go_at_call 23; refine (SA.out _ (HC.out.below HB.out)).mono ?_; clear SA; rintro e w2 ⟨g, c1, rfl, ho⟩; have HO := Aside0.mk (ho.less HB.out); clear ho) | (go_at_call 25; refine (OA.out _ _ _ HO.out.ci).mono ?_; clear OA; rintro e w3 ⟨A2, c2, rfl, hc2, hb⟩; have k1 := hc2.str; replace HO := Aside0.mk (HO.out.far hb); have k2 := (HC.out.below HO.out.bel).str; have s1 := (HO.out.cell hkl).1; have s2 := (HO.out.cell hkl).2; clear hb hc2) | (go_at_call 25; refine (OB.out _ _ _ (HO.out.put k _).ci).mono ?_; clear OB; rintro e w4 ⟨v, rfl, hb4⟩; have HB4 := Aside0.mk (below_step (HO.out.put k _).bel hb4); clear hb4) | (rw [HW2.out]))
    go_ret
    exact ⟨rfl, HB4.out⟩
end Go.Proofs.Ytjgianmcllkagaa.Wi
