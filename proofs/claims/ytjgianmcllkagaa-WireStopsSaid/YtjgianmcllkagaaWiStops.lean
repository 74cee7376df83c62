/- WireStops: behind an error a reader tells nothing any more, and the error stays. -/
import Derived.Test.YtjgianmcllkagaaWiOpens
set_option linter.unusedVariables false
set_option linter.unusedSimpArgs false
namespace Go.Proofs.Ytjgianmcllkagaa.Wi
open Go.RowKit Go.Proofs.YtjgianmcllkagaaW.PrintWords Go.Proofs.YtjgianmcllkagaaW.PrintLast Go.Proofs.YtjgianmcllkagaaW.PrintMore
attribute [local go_sem] max2_int min2_int max_two min_two max_three min_three max_four min_four Try.underlying26
theorem RD.drewN {W : World} {g : Nat} {r : Rd} (h : RD W g r) (n : Nat) : RD (W.drewN n) g r := h.far (pw_below_drewN (Below.refl _ _) n)
theorem nil_err (w : World) : Calls Try.prog 14 #[.pointer none] w fun e w' => e = .returned (.int .i64 8) ∧ w = w' := by
  go_enter Try.func14, Try.ntmps14
  go_wp2
  go_ret
  exact ⟨rfl, rfl⟩
theorem nil_left (w : World) : Calls Try.prog 15 #[.pointer none] w fun e w' => e = .returned (.int .i64 0) ∧ w = w' := by
  go_enter Try.func15, Try.ntmps15
  go_wp2
  go_ret
  exact ⟨rfl, rfl⟩
theorem nil_end (w : World) : Calls Try.prog 16 #[.pointer none] w fun e w' => e = .returned (.int .i64 8) ∧ w = w' := by
  go_enter Try.func16, Try.ntmps16
  go_wp2_with (first | (go_at_call 14; refine (nil_err _).mono ?_; rintro e w' ⟨rfl, rfl⟩))
  go_ret
  exact ⟨rfl, rfl⟩
theorem nil_next (n : Int) (w : World) : Calls Try.prog 13 #[.pointer none, .int .i64 n] w fun e w' => e = .returned (.int .i64 0) ∧ w = w' := by
  go_enter Try.func13, Try.ntmps13
  go_wp2_with (first | (go_at_call 14; refine (nil_err _).mono ?_; rintro e w' ⟨rfl, rfl⟩))
  go_ret
  exact ⟨rfl, rfl⟩
/-- Behind an error nothing is left. -/
def Rd.J (r : Rd) : Prop := r.e ≠ 0 → r.b = []
theorem next_J {r : Rd} (h : r.J) (n : Int) : (next r n).J := by
  unfold next
  split
  · exact h
  · split
    · exact fun _ => rfl
    · split
      · exact fun _ => rfl
      · exact fun h => absurd rfl h
theorem next_good {r : Rd} (hf : WF r.b) (n : Int) (he : r.e = 0) (h2 : (next r n).e = 0) : 0 ≤ n ∧ n ≤ 4 ∧ ((next r n).b.length : Int) = (r.b.length : Int) - n ∧ 0 ≤ nextV r n := by
  by_cases hl : lim n = 0
  · rw [show next r n = ⟨[], 8⟩ by simp [next, he, hl]] at h2
    exact absurd h2 (by decide)
  · by_cases hn : (r.b.length : Int) < n
    · rw [show next r n = ⟨[], 9⟩ by simp [next, he, hl, hn]] at h2
      exact absurd h2 (by decide)
    · rw [show next r n = ⟨r.b.drop n.toNat, 0⟩ by simp [next, he, hl, hn], show nextV r n = valB (r.b.take n.toNat) by simp [nextV, he, hl, hn]]
      have h4 := lim_of hl
      refine ⟨by omega, by omega, ?_, (val_bound (hf.take _) (by rw [List.length_take]; omega)).1⟩
      show (((r.b.drop n.toNat).length : Nat) : Int) = _
      rw [List.length_drop]
      omega
set_option maxHeartbeats 8000000 in
theorem wireStops_any (A : Option Addr) (m c : Nat) (xs : List Int) (hn : m = xs.length) (hl : xs.length ≤ maxLen) (AL : Option Addr) (mL cL : Nat) (L : List Int) (hnL : mL = L.length) (hlL : L.length ≤ maxLen) (w : World) (h : CI .u8 w A c xs) (hf : WF xs) (hL : CI .i64 w AL cL L) :
    Calls Try.prog 5 #[.slice A m c, .slice AL mL cL] w fun e w' => e = .returned (.bool true) ∧ Below w.heap.size w w' := by
  subst hn hnL
  obtain ⟨ys, h1, h2, h3, h4⟩ := few_ci h hf hl
  have HF := Aside0.mk h4
  have HC := Aside0.mk h1
  have RA := Aside0.mk (fun w (hc : CI .u8 w A c ys) => read_any hc h2 (by omega))
  have HL := Aside0.mk hL
  have hL0 : L.length ≤ 9223372036854775807 := by simpa [maxLen] using hlL
  clear h hf hl h4 h1 h2 hL hlL
  go_enter Try.func5, Try.ntmps5
  go_wp2_with (first | (go_at_call 9; refine (lives_any _).mono ?_; rintro e w1 ⟨rfl, hb⟩; have HB := Aside0.mk hb; clear hb) | (go_at_call 10; refine (HF.out _ HB.out).mono ?_; rintro e w' ⟨rfl, rfl⟩) | (go_at_call 11; refine (RA.out _ (HC.out.below HB.out)).mono ?_; rintro e w2 ⟨g, rfl, hr, hb, hg⟩; have HR0 := Aside0.mk hr; have HG := Aside0.mk (Nat.le_trans HB.out.size hg); replace HB := Aside0.mk (below_step HB.out hb); clear hr hb hg RA))
  go_loopw [6, 7] (fun v6 v7 wr => ∃ (k : Nat) (r : Rd), k ≤ L.length ∧ k ≤ 60 ∧ v6 = .int .i64 r.e ∧ v7 = .int .i64 k ∧ Aside0 (RD wr g r ∧ r.J ∧ Below w.heap.size w wr)) (fun _ v7 _ => L.length - (intOf v7).toNat)
  case atStart => exact ⟨0, ⟨ys, 0⟩, by omega, by omega, rfl, rfl, ⟨HR0.out, fun h => absurd rfl h, HB.out⟩⟩
  case round =>
    obtain ⟨k, r, hk, hk60, rfl, rfl, HH⟩ := hrel
    have HR := Aside0.mk HH.out.1
    replace HB := Aside0.mk HH.out.2.2
    have HJ := Aside0.mk HH.out.2.1
    have HWF := Aside0.mk HH.out.1.wf
    have HLR := Aside0.mk (show r.b.length ≤ 9223372036854775807 by obtain ⟨⟨A, c, _, h, _⟩, _⟩ := HH.out.1; exact h.c.2.1)
    clear HH HR0
    by_cases hlt : k < L.length
    · have hd1 : decide ((k : Int) < (L.length : Int)) = true := decide_eq_true (by omega)
      have hdn : decide (k < L.length) = true := decide_eq_true hlt
      by_cases hlt60 : k < 60
      · have hd2 : decide ((k : Int) < 60) = true := decide_eq_true (by omega)
        have hdn2 : decide (k < 60) = true := decide_eq_true hlt60
        obtain ⟨ad, rfl, hcell0⟩ := HL.out.at_ hlt
        have CL : ∀ w1, Below w.heap.size w w1 → w1.cell? (ad.add k) = some (.int .i64 (rd L k)) := fun w1 hb => by
          obtain ⟨ad', e, hc⟩ := (HL.out.below hb).at_ hlt
          cases e
          exact hc
        have hk0 : 0 ≤ (k : Int) := by omega
        have hk1 : (k : Int) < L.length := by omega
        have hcell := CL _ HB.out
        clear hcell0
        generalize rd L k = n at CL hcell
        have CL := Aside0.mk CL
        by_cases he : r.e = 0
        · have d0 : (r.e != 0) = false := bne_eq_false_iff_eq.mpr he
          have d1 : (r.e == 0) = true := beq_iff_eq.mpr he
          by_cases he2 : (next r n).e = 0
          · obtain ⟨n0, n4, hlen, hv⟩ := next_good HWF.out n he he2
            have d2 : ((next r n).e == 0) = true := beq_iff_eq.mpr he2
            have d3 : (((next r n).b.length : Int) != (r.b.length : Int) - n) = false := bne_eq_false_iff_eq.mpr hlen
            have d4 : decide (nextV r n < 0) = false := decide_eq_false (by omega)
            have hlx : r.b.length ≤ 9223372036854775807 := HLR.out
            clear he he2 hlen hv
            have NX := Aside0.mk (fun w1 (h : RD w1 g r) => next_any h n)
            go_upto_region 12 with (first | (go_at_call 15; refine (left_any (by first | exact HR2.out | exact HR.out)).mono ?_; rintro e w' ⟨rfl, rfl⟩) | (go_at_call 13; refine (NX.out _ HR.out).mono ?_; clear HR; rintro e w2 ⟨rfl, hr, hg⟩; have HB2 := Aside0.mk (below_grown HB.out hg (fun k hk => by cases hk; exact HG.out)); have hcell2 := CL.out _ HB2.out; have HR2 := Aside0.mk hr; clear hr hg HB; skip) | (go_at_call 14; refine (err_any HR2.out).mono ?_; rintro e w' ⟨rfl, rfl⟩))
            go_quiet ((first | (go_at_call 14; exact Calls.quiet_of_same ((err_any (by first | exact HR2.out | exact HR2.out.drew | exact HR2.out.drewN _)).mono (fun e w' h => ⟨h.1, h.2.symm⟩))) | (go_at_call 15; exact Calls.quiet_of_same ((left_any (by first | exact HR2.out | exact HR2.out.drew | exact HR2.out.drewN _)).mono (fun e w' h => ⟨h.1, h.2.symm⟩)))))
            go_wp2_with (first | (go_at_call 14; refine (err_any (HR2.out.drewN _)).mono ?_; rintro e w' ⟨rfl, rfl⟩))
            go_roundw
            case rel => exact ⟨k + 1, _, by omega, by omega, rfl, by go_num, ⟨HR2.out.drewN _, next_J HJ.out n, pw_below_drewN HB2.out _⟩⟩
            case measure => simp [intOf]; omega
          · have d2 : ((next r n).e == 0) = false := beq_eq_false_iff_ne.mpr he2
            clear he he2
            have NX := Aside0.mk (fun w1 (h : RD w1 g r) => next_any h n)
            go_upto_region 12 with (first | (go_at_call 15; refine (left_any (by first | exact HR2.out | exact HR.out)).mono ?_; rintro e w' ⟨rfl, rfl⟩) | (go_at_call 13; refine (NX.out _ HR.out).mono ?_; clear HR; rintro e w2 ⟨rfl, hr, hg⟩; have HB2 := Aside0.mk (below_grown HB.out hg (fun k hk => by cases hk; exact HG.out)); have hcell2 := CL.out _ HB2.out; have HR2 := Aside0.mk hr; clear hr hg HB; skip) | (go_at_call 14; refine (err_any HR2.out).mono ?_; rintro e w' ⟨rfl, rfl⟩))
            go_quiet ((first | (go_at_call 14; exact Calls.quiet_of_same ((err_any (by first | exact HR2.out | exact HR2.out.drew | exact HR2.out.drewN _)).mono (fun e w' h => ⟨h.1, h.2.symm⟩))) | (go_at_call 15; exact Calls.quiet_of_same ((left_any (by first | exact HR2.out | exact HR2.out.drew | exact HR2.out.drewN _)).mono (fun e w' h => ⟨h.1, h.2.symm⟩)))))
            go_wp2_with (first | (go_at_call 14; refine (err_any (HR2.out.drewN _)).mono ?_; rintro e w' ⟨rfl, rfl⟩))
            go_roundw
            case rel => exact ⟨k + 1, _, by omega, by omega, rfl, by go_num, ⟨HR2.out.drewN _, next_J HJ.out n, pw_below_drewN HB2.out _⟩⟩
            case measure => simp [intOf]; omega
        · have d0 : (r.e != 0) = true := bne_iff_ne.mpr he
          have d1 : (r.e == 0) = false := beq_eq_false_iff_ne.mpr he
          have e1 : next r n = r := by simp [next, he]
          have e2 : nextV r n = 0 := by simp [nextV, he]
          have e3 : r.b = [] := HJ.out he
          have NX := fun w1 (h : RD w1 g r) => next_any h n
          rw [e1, e2] at NX
          have NX := Aside0.mk NX
          clear e1 e2
          obtain ⟨b, e⟩ := r
          obtain rfl : b = [] := e3
          clear he
          go_upto_region 12 with (first | (go_at_call 15; refine (left_any (by first | exact HR2.out | exact HR.out)).mono ?_; rintro e w' ⟨rfl, rfl⟩) | (go_at_call 13; refine (NX.out _ HR.out).mono ?_; clear HR; rintro e w2 ⟨rfl, hr, hg⟩; have HB2 := Aside0.mk (below_grown HB.out hg (fun k hk => by cases hk; exact HG.out)); have hcell2 := CL.out _ HB2.out; have HR2 := Aside0.mk hr; clear hr hg HB; skip) | (go_at_call 14; refine (err_any HR2.out).mono ?_; rintro e w' ⟨rfl, rfl⟩))
          go_quiet ((first | (go_at_call 14; exact Calls.quiet_of_same ((err_any (by first | exact HR2.out | exact HR2.out.drew | exact HR2.out.drewN _)).mono (fun e w' h => ⟨h.1, h.2.symm⟩))) | (go_at_call 15; exact Calls.quiet_of_same ((left_any (by first | exact HR2.out | exact HR2.out.drew | exact HR2.out.drewN _)).mono (fun e w' h => ⟨h.1, h.2.symm⟩)))))
          go_wp2_with (first | (go_at_call 14; refine (err_any (HR2.out.drewN _)).mono ?_; rintro e w' ⟨rfl, rfl⟩))
          go_roundw
          case rel => exact ⟨k + 1, _, by omega, by omega, rfl, by go_num, ⟨HR2.out.drewN _, HJ.out, pw_below_drewN HB2.out _⟩⟩
          case measure => simp [intOf]; omega
      · have hd2 : decide ((k : Int) < 60) = false := decide_eq_false (by omega)
        have hdn2 : decide (k < 60) = false := decide_eq_false hlt60
        go_wp2_with (first | (go_at_call 13; refine (nil_next _ _).mono ?_; rintro e w' ⟨rfl, rfl⟩) | (go_at_call 14; refine (nil_err _).mono ?_; rintro e w' ⟨rfl, rfl⟩) | (go_at_call 15; refine (nil_left _).mono ?_; rintro e w' ⟨rfl, rfl⟩) | (go_at_call 16; refine (nil_end _).mono ?_; rintro e w' ⟨rfl, rfl⟩))
        go_ret
        exact ⟨rfl, HB.out⟩
    · have hd1 : decide ((k : Int) < (L.length : Int)) = false := decide_eq_false (by omega)
      have hdn : decide (k < L.length) = false := decide_eq_false hlt
      go_wp2_with (first | (go_at_call 13; refine (nil_next _ _).mono ?_; rintro e w' ⟨rfl, rfl⟩) | (go_at_call 14; refine (nil_err _).mono ?_; rintro e w' ⟨rfl, rfl⟩) | (go_at_call 15; refine (nil_left _).mono ?_; rintro e w' ⟨rfl, rfl⟩) | (go_at_call 16; refine (nil_end _).mono ?_; rintro e w' ⟨rfl, rfl⟩))
      go_ret
      exact ⟨rfl, HB.out⟩
end Go.Proofs.Ytjgianmcllkagaa.Wi
