/- WireBack: numbers that are put one behind the other are read as they were, and nothing is left. -/
import Derived.Test.YtjgianmcllkagaaWiOpens
set_option linter.unusedVariables false
set_option linter.unusedSimpArgs false
namespace Go.Proofs.Ytjgianmcllkagaa.Wi
open Go.RowKit Go.Proofs.YtjgianmcllkagaaW.PrintWords Go.Proofs.YtjgianmcllkagaaW.PrintLast Go.Proofs.YtjgianmcllkagaaW.PrintMore
attribute [local go_sem] max2_int min2_int max_two min_two max_three min_three max_four min_four Try.underlying23
def encB : List (Int × Int) → List Int
  | [] => []
  | p :: t => putB p.1 p.2 ++ encB t
theorem encB_snoc : ∀ (ps : List (Int × Int)) (p : Int × Int), encB (ps ++ [p]) = encB ps ++ putB p.1 p.2
  | [], p => by simp [encB]
  | q :: t, p => by simp only [List.cons_append, encB, encB_snoc t p, List.append_assoc]
theorem encB_wf : ∀ ps, WF (encB ps)
  | [] => WF.nil
  | p :: t => (WF.putB _ _).app (encB_wf t)
theorem putB_len {n v : Int} (h : putE n v = 0) : ((putB n v).length : Int) = n := by
  rcases putE_ok h with ⟨rfl, _, _⟩ | ⟨rfl, _, _⟩ | ⟨rfl, _, _⟩ <;> rfl
theorem putB_back {n v : Int} (h : putE n v = 0) : valB (putB n v) = v := by
  rcases putE_ok h with ⟨rfl, _, _⟩ | ⟨rfl, _, _⟩ | ⟨rfl, _, _⟩ <;> simp [putB, valB] <;> omega
theorem putE_lim {n v : Int} (h : putE n v = 0) : lim n ≠ 0 := by
  intro e
  unfold putE at h
  rw [if_pos e] at h
  exact absurd h (by decide)
theorem next_enc {n v : Int} (h : putE n v = 0) (t : List Int) : next ⟨putB n v ++ t, 0⟩ n = ⟨t, 0⟩ ∧ nextV ⟨putB n v ++ t, 0⟩ n = v := by
  have h1 := putB_len h
  have h2 := putE_lim h
  have h3 : ¬ (((putB n v ++ t).length : Int) < n) := by rw [List.length_append]; omega
  have h4 : n.toNat = (putB n v).length := by omega
  constructor
  · simp only [next, ne_eq, not_true_eq_false, if_false, h2, h3, h4, List.drop_left]
  · simp only [nextV, ne_eq, not_true_eq_false, if_false, h2, h3, h4, List.take_left]
    exact putB_back h
def Good (ps : List (Int × Int)) : Prop := ∀ p ∈ ps, putE p.1 p.2 = 0
theorem enc_len : ∀ {ps : List (Int × Int)}, Good ps → (encB ps).length ≤ 4 * ps.length
  | [], _ => by simp [encB]
  | p :: t, h => by
    have h1 := putB_len (h p (by simp))
    have h2 := enc_len (ps := t) (fun q hq => h q (by simp [hq]))
    have h3 : p.1 ≤ 4 := by rcases putE_ok (h p (by simp)) with ⟨e, _, _⟩ | ⟨e, _, _⟩ | ⟨e, _, _⟩ <;> omega
    simp only [encB, List.length_append, List.length_cons]
    omega
theorem OI.other {k k' : IntKind} {e e' : TypeId} {w0 W W' : World} {v u : Value} {xs ys : List Int} (h : OI k e w0 W v xs) (h2 : OI k' e' w0 W u ys) (hne : e ≠ e') (hg : W.grownBy W' u.ownBlock) : OI k e w0 W' v xs := by
  refine h.grown hg (fun b hb => (h2.typed b hb).1) (fun b hb e => ?_)
  obtain ⟨_, c1, k1⟩ := h.typed b e
  obtain ⟨_, c2, k2⟩ := h2.typed b hb
  rw [k1] at k2
  injection k2 with k2
  injection k2 with _ k2
  exact hne k2
/-- The bytes put, the numbers, the widths: three rows of the call's own. -/
structure Tr (w0 W : World) (b own wides : Value) (bs vs ws : List Int) : Prop where
  ob : OI .u8 5 w0 W b bs
  oo : OI .i64 3 w0 W own vs
  ow : OI .i64 3 w0 W wides ws
  dis : ∀ x, own.ownBlock = some x → wides.ownBlock ≠ some x
section
variable {w0 W W' : World} {b own wides v : Value} {bs vs ws xs : List Int}
theorem Tr.far (h : Tr w0 W b own wides bs vs ws) (hb : Below W.heap.size W W') : Tr w0 W' b own wides bs vs ws := ⟨h.ob.far hb, h.oo.far hb, h.ow.far hb, h.dis⟩
theorem Tr.addOwn (h : Tr w0 W b own wides bs vs ws) (ho : OI .i64 3 w0 W' v xs) (hg : W.grownBy W' own.ownBlock) (hat : v.ownBlock = own.ownBlock ∨ ∃ b, v.ownBlock = some b ∧ W.heap.size ≤ b) : Tr w0 W' b v wides bs xs ws := by
  refine ⟨h.ob.other h.oo (by decide) hg, ho, h.ow.grown hg (fun b hb => (h.oo.typed b hb).1) (fun b hb => h.dis b hb), fun x hx => ?_⟩
  rcases hat with e | ⟨b', e, hle⟩
  · exact h.dis x (by rw [← e]; exact hx)
  · rw [e] at hx
    cases hx
    intro hx
    obtain ⟨_, c1, k1⟩ := h.ow.typed _ hx
    have := blk_lt k1
    omega
theorem Tr.addWides (h : Tr w0 W b own wides bs vs ws) (ho : OI .i64 3 w0 W' v xs) (hg : W.grownBy W' wides.ownBlock) (hat : v.ownBlock = wides.ownBlock ∨ ∃ b, v.ownBlock = some b ∧ W.heap.size ≤ b) : Tr w0 W' b own v bs vs xs := by
  refine ⟨h.ob.other h.ow (by decide) hg, h.oo.grown hg (fun b hb => (h.ow.typed b hb).1) (fun b hb e => h.dis b e hb), ho, fun x hx => ?_⟩
  rcases hat with e | ⟨b', e, hle⟩
  · rw [e]
    exact h.dis x hx
  · rw [e]
    intro e2
    cases e2
    obtain ⟨_, c1, k1⟩ := h.oo.typed _ hx
    have := blk_lt k1
    omega
end
theorem put_n {n : Nat} {v : Int} (h : putE n v = 0) {A : Option Addr} {c : Nat} {xs : List Int} {w : World} (hc : CI .u8 w A c xs) (hl : xs.length ≤ 900) :
    Calls Try.prog 19 #[.slice A xs.length c, .int .i64 n, .int .i64 v] w fun e w' => ∃ A' c', e = .returned (.tuple #[.slice A' (xs.length + n) c', .int .i64 0]) ∧ OI .u8 5 w w' (.slice A' (xs.length + n) c') (xs ++ putB n v) := by
  refine (put_ok h hc hl).mono ?_
  rintro e w' ⟨r, rfl, ho⟩
  obtain ⟨A1, c1, rfl, h1⟩ := ho.reads
  have e : (xs ++ putB n v).length = xs.length + n := by
    have := putB_len h
    rw [List.length_append]
    omega
  rw [e] at ho ⊢
  exact ⟨A1, c1, rfl, ho⟩
theorem rd_snd {ps : List (Int × Int)} {k : Nat} (h : k < ps.length) : rd (ps.map Prod.snd) (k : Int) = ps[k].2 := by simp [rd, h]
theorem rd_fst {ps : List (Int × Int)} {k : Nat} (h : k < ps.length) : rd (ps.map Prod.fst) (k : Int) = ps[k].1 := by simp [rd, h]
theorem at_snd {W : World} {a : Addr} {c j : Nat} {ps : List (Int × Int)} {v : Int} (h : CI .i64 W (some a) c (ps.map Prod.snd)) (hj : j < ps.length) (hv : ps[j].2 = v) : W.cell? (a.add j) = some (.int .i64 v) := by
  obtain ⟨ad', e, hc⟩ := h.at_ (i := j) (by rw [List.length_map]; exact hj)
  cases e
  rw [rd_snd hj, hv] at hc
  exact hc
theorem at_fst {W : World} {a : Addr} {c j : Nat} {ps : List (Int × Int)} {v : Int} (h : CI .i64 W (some a) c (ps.map Prod.fst)) (hj : j < ps.length) (hv : ps[j].1 = v) : W.cell? (a.add j) = some (.int .i64 v) := by
  obtain ⟨ad', e, hc⟩ := h.at_ (i := j) (by rw [List.length_map]; exact hj)
  cases e
  rw [rd_fst hj, hv] at hc
  exact hc
set_option maxHeartbeats 8000000 in
set_option maxRecDepth 100000 in
theorem wireBack_any (A1 : Option Addr) (m1 c1 : Nat) (L1 : List Int) (hn1 : m1 = L1.length) (hl1 : L1.length ≤ maxLen) (A2 : Option Addr) (m2 c2 : Nat) (L2 : List Int) (hn2 : m2 = L2.length) (hl2 : L2.length ≤ maxLen) (w : World) (h1 : CI .i64 w A1 c1 L1) (h2 : CI .i64 w A2 c2 L2) :
    Calls Try.prog 4 #[.slice A1 m1 c1, .slice A2 m2 c2] w fun e w' => e = .returned (.bool true) ∧ Below w.heap.size w w' := by
  subst hn1 hn2
  have HL1 := Aside0.mk h1
  have HL2 := Aside0.mk h2
  have hL1 : L1.length ≤ 9223372036854775807 := by simpa [maxLen] using hl1
  have hL2 : L2.length ≤ 9223372036854775807 := by simpa [maxLen] using hl2
  clear h1 h2 hl1 hl2
  go_enter Try.func4, Try.ntmps4
  go_wp2_with (first | (go_at_call 9; refine (lives_any _).mono ?_; rintro e w1 ⟨rfl, hb⟩; have HB := Aside0.mk hb; clear hb))
  have t0 : Tr w w1 (.slice none 0 0) (.slice none 0 0) (.slice none 0 0) [] [] [] := ⟨OI.nil _ _ HB.out, OI.nil _ _ HB.out, OI.nil _ _ HB.out, fun x hx => by cases hx⟩
  have T0 := Aside0.mk t0
  clear t0 HB
  go_loopw [5, 6, 7, 8] (fun v5 v6 v7 v8 wr => ∃ (k : Nat) (ps : List (Int × Int)), k ≤ 40 ∧ ps.length = k ∧ v8 = .int .i64 k ∧ Aside0 (Good ps) ∧ Aside0 (Tr w wr v5 v6 v7 (encB ps) (ps.map Prod.snd) (ps.map Prod.fst))) (fun _ _ _ v8 _ => 40 - (intOf v8).toNat)
  case atStart => exact ⟨0, [], by omega, rfl, rfl, ⟨fun p hp => by cases hp⟩, T0⟩
  case round =>
    obtain ⟨k, ps, hk40, hpk, rfl, HG, HT⟩ := hrel
    clear T0
    have HPL := Aside0.mk (show ps.length ≤ 40 by omega)
    have HEL := Aside0.mk (enc_len HG.out)
    obtain ⟨B5, C5, rfl, hb5⟩ := HT.out.ob.reads
    obtain ⟨B6, C6, rfl, hb6⟩ := HT.out.oo.reads
    obtain ⟨B7, C7, rfl, hb7⟩ := HT.out.ow.reads
    rw [show (ps.map Prod.snd).length = ps.length from List.length_map _, show (ps.map Prod.fst).length = ps.length from List.length_map _] at HT
    have HPK := Aside0.mk hpk
    clear hpk
    have HB5 := Aside0.mk hb5
    have HB6 := Aside0.mk hb6
    have HB7 := Aside0.mk hb7
    clear hb5 hb6 hb7
    by_cases hin : k < L1.length ∧ k < L2.length ∧ k < 40
    · obtain ⟨i1, i2, i3⟩ := hin
      have d1 : decide ((k : Int) < (L1.length : Int)) = true := decide_eq_true (by omega)
      have d1n : decide (k < L1.length) = true := decide_eq_true i1
      have d2 : decide ((k : Int) < (L2.length : Int)) = true := decide_eq_true (by omega)
      have d2n : decide (k < L2.length) = true := decide_eq_true i2
      have d3 : decide ((k : Int) < 40) = true := decide_eq_true (by omega)
      have d3n : decide (k < 40) = true := decide_eq_true i3
      obtain ⟨a1, rfl, hcell1⟩ := (HL1.out.below HT.out.ob.bel).at_ i1
      obtain ⟨a2, rfl, hcell2⟩ := (HL2.out.below HT.out.ob.bel).at_ i2
      have CA := Aside0.mk (fun w1 (hb : Below w.heap.size w w1) => show w1.cell? (a1.add k) = some (.int .i64 (rd L1 k)) by
        obtain ⟨ad', e, hc⟩ := (HL1.out.below hb).at_ i1
        cases e
        exact hc)
      generalize rd L1 k = x1 at hcell1 CA
      generalize rd L2 k = x2 at hcell2
      have hk0 : 0 ≤ (k : Int) := by omega
      have k1 : (k : Int) < L1.length := by omega
      have k2 : (k : Int) < L2.length := by omega
      have hu := u64_nn x1
      have WD := wide_any x2
      rcases wd_of x2 with hw | hw | hw
      · rw [hw] at WD
        have WD := Aside0.mk WD
        obtain ⟨v, hv⟩ : ∃ v, IntKind.u64.wrap x1 % 256 = v := ⟨_, rfl⟩
        have hvw : wrap64 (Int.tmod (IntKind.u64.wrap x1) 256) = v := by
          rw [Int.tmod_eq_emod_of_nonneg hu, hv, w64 (by omega) (by omega)]
        have HV := Aside0.mk hvw
        have HPE : Aside0 (putE (((1 : Nat) : Int)) v = 0) := ⟨by
          unfold putE
          rw [if_neg (by decide), if_neg (by rw [show lim ((1 : Nat) : Int) = 256 from rfl]; omega)]⟩
        have hel : (encB ps).length ≤ 160 := by have := HEL.out; have := HPL.out; omega
        have HK3 := Aside0.mk i3
        clear hv hvw hu hw i1 i2 i3
        go_wp2_with (first | (go_at_call 18; refine (WD.out _).mono ?_; rintro e w2 ⟨rfl, hb⟩; have HT := Aside0.mk (HT.out.far hb); have HB5 := Aside0.mk (HB5.out.below hb); have hcell3 := CA.out _ HT.out.ob.bel; clear hb) | (go_at_call 19; refine (put_n (n := 1) HPE.out HB5.out (by have := HEL.out; have := HPL.out; omega)).mono ?_; rintro e w2 ⟨A9, c9, rfl, ho⟩; have HT := Aside0.mk (Tr.mk (ho.less HT.out.ob.bel) (HT.out.oo.far ho.bel) (HT.out.ow.far ho.bel) HT.out.dis); clear ho) | (rw [HV.out]) | ((with_reducible refine gate_dst (N := 70) rfl ?_); refine lit_ints (k := .i64) (e := 3) ?hg (N := 70) ?hd [v] #[.int .i64 v] ?hr ?hi ?hm ?_; (case hd => rfl); (case hg => rfl); (case hr => first | (go_simp; done) | (go_simp; rfl)); (case hi => rfl); (case hm => simp); intro D w3 hC hB_; have HT := Aside0.mk (HT.out.far hB_.bel); have HC := Aside0.mk hC; clear hC hB_) | ((with_reducible refine gate_builtin (b := .append) (xs := #[.tmp 68, .tmp 70]) rfl ?_); at_builtin; refine app_ints (k := .i64) (w0 := w) rfl (.tmp 68) (.tmp 70) 23 8 rfl Try.underlying23 info64 (by decide) (by decide) _ (ps.map Prod.snd) [v] _ _ _ rfl rfl rfl ?aO ?aR ?aL ?_; (case aL => simp; have := HPL.out; omega); (case aR => exact HC.out); (case aO => exact HT.out.oo); intro v4 w4 ho hg hat; have HT := Aside0.mk (HT.out.addOwn ho hg hat); clear ho hg hat) | ((with_reducible refine gate_dst (N := 74) rfl ?_); refine lit_ints (k := .i64) (e := 3) ?hg (N := 74) ?hd [1] #[.int .i64 1] ?hr ?hi ?hm ?_; (case hd => rfl); (case hg => rfl); (case hr => first | (go_simp; done) | (go_simp; rfl)); (case hi => rfl); (case hm => simp); intro D w3 hC hB_; have HT := Aside0.mk (HT.out.far hB_.bel); have HC := Aside0.mk hC; clear hC hB_) | ((with_reducible refine gate_builtin (b := .append) (xs := #[.tmp 72, .tmp 74]) rfl ?_); at_builtin; refine app_ints (k := .i64) (w0 := w) rfl (.tmp 72) (.tmp 74) 23 8 rfl Try.underlying23 info64 (by decide) (by decide) _ (ps.map Prod.fst) [1] _ _ _ rfl rfl rfl ?aO ?aR ?aL ?_; (case aL => simp; have := HPL.out; omega); (case aR => exact HC.out); (case aO => exact HT.out.ow); intro v4 w4 ho hg hat; have HT := Aside0.mk (HT.out.addWides ho hg hat); clear ho hg hat))
        go_roundw
        case rel => exact ⟨k + 1, ps ++ [(1, v)], by have := HK3.out; omega, by simp [HPK.out], by go_num, ⟨fun p hp => by rcases List.mem_append.1 hp with hp | hp; exact HG.out p hp; simp at hp; rw [hp]; exact HPE.out⟩, ⟨by rw [encB_snoc, List.map_append, List.map_append]; exact HT.out⟩⟩
        case measure => have := HK3.out; simp [intOf]; omega
      · rw [hw] at WD
        have WD := Aside0.mk WD
        obtain ⟨v, hv⟩ : ∃ v, IntKind.u64.wrap x1 % 65536 = v := ⟨_, rfl⟩
        have hvw : wrap64 (Int.tmod (IntKind.u64.wrap x1) 65536) = v := by
          rw [Int.tmod_eq_emod_of_nonneg hu, hv, w64 (by omega) (by omega)]
        have HV := Aside0.mk hvw
        have HPE : Aside0 (putE (((2 : Nat) : Int)) v = 0) := ⟨by
          unfold putE
          rw [if_neg (by decide), if_neg (by rw [show lim ((2 : Nat) : Int) = 65536 from rfl]; omega)]⟩
        have hel : (encB ps).length ≤ 160 := by have := HEL.out; have := HPL.out; omega
        have HK3 := Aside0.mk i3
        clear hv hvw hu hw i1 i2 i3
        go_wp2_with (first | (go_at_call 18; refine (WD.out _).mono ?_; rintro e w2 ⟨rfl, hb⟩; have HT := Aside0.mk (HT.out.far hb); have HB5 := Aside0.mk (HB5.out.below hb); have hcell3 := CA.out _ HT.out.ob.bel; clear hb) | (go_at_call 19; refine (put_n (n := 2) HPE.out HB5.out (by have := HEL.out; have := HPL.out; omega)).mono ?_; rintro e w2 ⟨A9, c9, rfl, ho⟩; have HT := Aside0.mk (Tr.mk (ho.less HT.out.ob.bel) (HT.out.oo.far ho.bel) (HT.out.ow.far ho.bel) HT.out.dis); clear ho) | (rw [HV.out]) | ((with_reducible refine gate_dst (N := 70) rfl ?_); refine lit_ints (k := .i64) (e := 3) ?hg (N := 70) ?hd [v] #[.int .i64 v] ?hr ?hi ?hm ?_; (case hd => rfl); (case hg => rfl); (case hr => first | (go_simp; done) | (go_simp; rfl)); (case hi => rfl); (case hm => simp); intro D w3 hC hB_; have HT := Aside0.mk (HT.out.far hB_.bel); have HC := Aside0.mk hC; clear hC hB_) | ((with_reducible refine gate_builtin (b := .append) (xs := #[.tmp 68, .tmp 70]) rfl ?_); at_builtin; refine app_ints (k := .i64) (w0 := w) rfl (.tmp 68) (.tmp 70) 23 8 rfl Try.underlying23 info64 (by decide) (by decide) _ (ps.map Prod.snd) [v] _ _ _ rfl rfl rfl ?aO ?aR ?aL ?_; (case aL => simp; have := HPL.out; omega); (case aR => exact HC.out); (case aO => exact HT.out.oo); intro v4 w4 ho hg hat; have HT := Aside0.mk (HT.out.addOwn ho hg hat); clear ho hg hat) | ((with_reducible refine gate_dst (N := 74) rfl ?_); refine lit_ints (k := .i64) (e := 3) ?hg (N := 74) ?hd [2] #[.int .i64 2] ?hr ?hi ?hm ?_; (case hd => rfl); (case hg => rfl); (case hr => first | (go_simp; done) | (go_simp; rfl)); (case hi => rfl); (case hm => simp); intro D w3 hC hB_; have HT := Aside0.mk (HT.out.far hB_.bel); have HC := Aside0.mk hC; clear hC hB_) | ((with_reducible refine gate_builtin (b := .append) (xs := #[.tmp 72, .tmp 74]) rfl ?_); at_builtin; refine app_ints (k := .i64) (w0 := w) rfl (.tmp 72) (.tmp 74) 23 8 rfl Try.underlying23 info64 (by decide) (by decide) _ (ps.map Prod.fst) [2] _ _ _ rfl rfl rfl ?aO ?aR ?aL ?_; (case aL => simp; have := HPL.out; omega); (case aR => exact HC.out); (case aO => exact HT.out.ow); intro v4 w4 ho hg hat; have HT := Aside0.mk (HT.out.addWides ho hg hat); clear ho hg hat))
        go_roundw
        case rel => exact ⟨k + 1, ps ++ [(2, v)], by have := HK3.out; omega, by simp [HPK.out], by go_num, ⟨fun p hp => by rcases List.mem_append.1 hp with hp | hp; exact HG.out p hp; simp at hp; rw [hp]; exact HPE.out⟩, ⟨by rw [encB_snoc, List.map_append, List.map_append]; exact HT.out⟩⟩
        case measure => have := HK3.out; simp [intOf]; omega
      · rw [hw] at WD
        have WD := Aside0.mk WD
        obtain ⟨v, hv⟩ : ∃ v, IntKind.u64.wrap x1 % 4294967296 = v := ⟨_, rfl⟩
        have hvw : wrap64 (Int.tmod (IntKind.u64.wrap x1) 4294967296) = v := by
          rw [Int.tmod_eq_emod_of_nonneg hu, hv, w64 (by omega) (by omega)]
        have HV := Aside0.mk hvw
        have HPE : Aside0 (putE (((4 : Nat) : Int)) v = 0) := ⟨by
          unfold putE
          rw [if_neg (by decide), if_neg (by rw [show lim ((4 : Nat) : Int) = 4294967296 from rfl]; omega)]⟩
        have hel : (encB ps).length ≤ 160 := by have := HEL.out; have := HPL.out; omega
        have HK3 := Aside0.mk i3
        clear hv hvw hu hw i1 i2 i3
        go_wp2_with (first | (go_at_call 18; refine (WD.out _).mono ?_; rintro e w2 ⟨rfl, hb⟩; have HT := Aside0.mk (HT.out.far hb); have HB5 := Aside0.mk (HB5.out.below hb); have hcell3 := CA.out _ HT.out.ob.bel; clear hb) | (go_at_call 19; refine (put_n (n := 4) HPE.out HB5.out (by have := HEL.out; have := HPL.out; omega)).mono ?_; rintro e w2 ⟨A9, c9, rfl, ho⟩; have HT := Aside0.mk (Tr.mk (ho.less HT.out.ob.bel) (HT.out.oo.far ho.bel) (HT.out.ow.far ho.bel) HT.out.dis); clear ho) | (rw [HV.out]) | ((with_reducible refine gate_dst (N := 70) rfl ?_); refine lit_ints (k := .i64) (e := 3) ?hg (N := 70) ?hd [v] #[.int .i64 v] ?hr ?hi ?hm ?_; (case hd => rfl); (case hg => rfl); (case hr => first | (go_simp; done) | (go_simp; rfl)); (case hi => rfl); (case hm => simp); intro D w3 hC hB_; have HT := Aside0.mk (HT.out.far hB_.bel); have HC := Aside0.mk hC; clear hC hB_) | ((with_reducible refine gate_builtin (b := .append) (xs := #[.tmp 68, .tmp 70]) rfl ?_); at_builtin; refine app_ints (k := .i64) (w0 := w) rfl (.tmp 68) (.tmp 70) 23 8 rfl Try.underlying23 info64 (by decide) (by decide) _ (ps.map Prod.snd) [v] _ _ _ rfl rfl rfl ?aO ?aR ?aL ?_; (case aL => simp; have := HPL.out; omega); (case aR => exact HC.out); (case aO => exact HT.out.oo); intro v4 w4 ho hg hat; have HT := Aside0.mk (HT.out.addOwn ho hg hat); clear ho hg hat) | ((with_reducible refine gate_dst (N := 74) rfl ?_); refine lit_ints (k := .i64) (e := 3) ?hg (N := 74) ?hd [4] #[.int .i64 4] ?hr ?hi ?hm ?_; (case hd => rfl); (case hg => rfl); (case hr => first | (go_simp; done) | (go_simp; rfl)); (case hi => rfl); (case hm => simp); intro D w3 hC hB_; have HT := Aside0.mk (HT.out.far hB_.bel); have HC := Aside0.mk hC; clear hC hB_) | ((with_reducible refine gate_builtin (b := .append) (xs := #[.tmp 72, .tmp 74]) rfl ?_); at_builtin; refine app_ints (k := .i64) (w0 := w) rfl (.tmp 72) (.tmp 74) 23 8 rfl Try.underlying23 info64 (by decide) (by decide) _ (ps.map Prod.fst) [4] _ _ _ rfl rfl rfl ?aO ?aR ?aL ?_; (case aL => simp; have := HPL.out; omega); (case aR => exact HC.out); (case aO => exact HT.out.ow); intro v4 w4 ho hg hat; have HT := Aside0.mk (HT.out.addWides ho hg hat); clear ho hg hat))
        go_roundw
        case rel => exact ⟨k + 1, ps ++ [(4, v)], by have := HK3.out; omega, by simp [HPK.out], by go_num, ⟨fun p hp => by rcases List.mem_append.1 hp with hp | hp; exact HG.out p hp; simp at hp; rw [hp]; exact HPE.out⟩, ⟨by rw [encB_snoc, List.map_append, List.map_append]; exact HT.out⟩⟩
        case measure => have := HK3.out; simp [intOf]; omega
    · by_cases i1 : k < L1.length
      · have d1 : decide ((k : Int) < (L1.length : Int)) = true := decide_eq_true (by omega)
        have d1n : decide (k < L1.length) = true := decide_eq_true i1
        by_cases i2 : k < L2.length
        · have d2 : decide ((k : Int) < (L2.length : Int)) = true := decide_eq_true (by omega)
          have d2n : decide (k < L2.length) = true := decide_eq_true i2
          have d3 : decide ((k : Int) < 40) = false := decide_eq_false (by omega)
          have d3n : decide (k < 40) = false := decide_eq_false (by omega)
          clear hin i1 i2
          have HB8 := Aside0.mk HT.out.ob.bel
          have RDA := Aside0.mk (read_any HB5.out (encB_wf ps) (by have := HEL.out; have := HPL.out; omega))
          clear HT HB5 hk40
          go_wp2_with (first | (go_at_call 11; refine RDA.out.mono ?_; clear RDA; rintro e w2 ⟨g, rfl, hr, hb, hg⟩; have HR := Aside0.mk hr; have HB := Aside0.mk hb; have HGG := Aside0.mk hg; clear hr hb hg))
          go_loopw [14] (fun v14 wq => ∃ j : Nat, j ≤ ps.length ∧ v14 = .int .i64 j ∧ Aside0 (RD wq g ⟨encB (ps.drop j), 0⟩) ∧ Aside0 (Below wr.heap.size wr wq)) (fun v14 _ => ps.length - (intOf v14).toNat)
          case atStart => exact ⟨0, by omega, rfl, HR, HB⟩
          case round =>
            obtain ⟨j, hj, rfl, HR2, HB2⟩ := hrel
            clear HR HB
            by_cases hlt : j < ps.length
            · have q1 : decide ((j : Int) < (ps.length : Int)) = true := decide_eq_true (by omega)
              have q1n : decide (j < ps.length) = true := decide_eq_true hlt
              have hlt6 : j < (ps.map Prod.snd).length := by rw [List.length_map]; exact hlt
              have hlt7 : j < (ps.map Prod.fst).length := by rw [List.length_map]; exact hlt
              obtain ⟨a6, rfl, _⟩ := HB6.out.at_ hlt6
              obtain ⟨a7, rfl, _⟩ := HB7.out.at_ hlt7
              have NX := fun w1 (h : RD w1 g ⟨encB (ps.drop j), 0⟩) => next_any h ps[j].1
              have hen : encB (ps.drop j) = putB ps[j].1 ps[j].2 ++ encB (ps.drop (j + 1)) := by rw [List.drop_eq_getElem_cons hlt]; rfl
              have hnx := next_enc (HG.out ps[j] (List.getElem_mem hlt)) (encB (ps.drop (j + 1)))
              rw [← hen] at hnx
              rw [hnx.1, hnx.2] at NX
              have NX := Aside0.mk NX
              clear hen hnx
              have hj40 : j ≤ 40 := by have := HPL.out; omega
              have hj0 : 0 ≤ (j : Int) := by omega
              have hj1 : (j : Int) < ps.length := by omega
              obtain ⟨n, hn⟩ : ∃ n, ps[j].1 = n := ⟨_, rfl⟩
              obtain ⟨v, hv⟩ : ∃ v, ps[j].2 = v := ⟨_, rfl⟩
              rw [hn, hv] at NX
              have HN := Aside0.mk hn
              have HV := Aside0.mk hv
              have HLT := Aside0.mk hlt
              clear hn hv
              go_upto_region 20 with (first | fail)
              go_region_held3 (fun w' => w'.cell? (a6.add j) = some (.int .i64 v) ∧ w'.cell? (a7.add j) = some (.int .i64 n)) (first | exact ⟨at_snd (HB6.out.below (below_drew HB2.out)) HLT.out HV.out, at_fst (HB7.out.below (below_drew HB2.out)) HLT.out HN.out⟩ | exact ⟨at_snd (HB6.out.below HB3.out) HLT.out HV.out, at_fst (HB7.out.below HB3.out) HLT.out HN.out⟩) (first | (go_at_call 13; refine (NX.out _ HR2.out.drew).mono ?_; rintro e w3 ⟨rfl, hr, hg⟩; have HB3 := Aside0.mk (below_grown (below_drew HB2.out) hg (fun k hk => by cases hk; exact HGG.out)); have HR3 := Aside0.mk hr; clear hr hg))
              all_goals (go_wp2; go_roundw; (case rel => exact ⟨j + 1, by have := HLT.out; omega, by go_num, HR3, HB3⟩); (case measure => have := HLT.out; simp [intOf]; omega))
            · have q1 : decide ((j : Int) < (ps.length : Int)) = false := decide_eq_false (by omega)
              have q1n : decide (j < ps.length) = false := decide_eq_false hlt
              obtain rfl : j = ps.length := by omega
              rw [List.drop_length] at HR2
              have HR3 : Aside0 (RD wr g ⟨[], 0⟩) := HR2
              have HE := Aside0.mk (end_any HR3.out)
              have HLE := Aside0.mk (left_any HR3.out)
              have FB := Aside0.mk (below_step HB8.out HB2.out)
              go_wp2_with (first | (go_at_call 16; refine HE.out.mono ?_; rintro e w' ⟨rfl, rfl⟩) | (go_at_call 15; refine HLE.out.mono ?_; rintro e w' ⟨rfl, rfl⟩))
              go_ret
              exact ⟨rfl, FB.out⟩
        · have d2 : decide ((k : Int) < (L2.length : Int)) = false := decide_eq_false (by omega)
          have d2n : decide (k < L2.length) = false := decide_eq_false i2
          clear hin i1 i2
          have HB8 := Aside0.mk HT.out.ob.bel
          have RDA := Aside0.mk (read_any HB5.out (encB_wf ps) (by have := HEL.out; have := HPL.out; omega))
          clear HT HB5 hk40
          go_wp2_with (first | (go_at_call 11; refine RDA.out.mono ?_; clear RDA; rintro e w2 ⟨g, rfl, hr, hb, hg⟩; have HR := Aside0.mk hr; have HB := Aside0.mk hb; have HGG := Aside0.mk hg; clear hr hb hg))
          go_loopw [14] (fun v14 wq => ∃ j : Nat, j ≤ ps.length ∧ v14 = .int .i64 j ∧ Aside0 (RD wq g ⟨encB (ps.drop j), 0⟩) ∧ Aside0 (Below wr.heap.size wr wq)) (fun v14 _ => ps.length - (intOf v14).toNat)
          case atStart => exact ⟨0, by omega, rfl, HR, HB⟩
          case round =>
            obtain ⟨j, hj, rfl, HR2, HB2⟩ := hrel
            clear HR HB
            by_cases hlt : j < ps.length
            · have q1 : decide ((j : Int) < (ps.length : Int)) = true := decide_eq_true (by omega)
              have q1n : decide (j < ps.length) = true := decide_eq_true hlt
              have hlt6 : j < (ps.map Prod.snd).length := by rw [List.length_map]; exact hlt
              have hlt7 : j < (ps.map Prod.fst).length := by rw [List.length_map]; exact hlt
              obtain ⟨a6, rfl, _⟩ := HB6.out.at_ hlt6
              obtain ⟨a7, rfl, _⟩ := HB7.out.at_ hlt7
              have NX := fun w1 (h : RD w1 g ⟨encB (ps.drop j), 0⟩) => next_any h ps[j].1
              have hen : encB (ps.drop j) = putB ps[j].1 ps[j].2 ++ encB (ps.drop (j + 1)) := by rw [List.drop_eq_getElem_cons hlt]; rfl
              have hnx := next_enc (HG.out ps[j] (List.getElem_mem hlt)) (encB (ps.drop (j + 1)))
              rw [← hen] at hnx
              rw [hnx.1, hnx.2] at NX
              have NX := Aside0.mk NX
              clear hen hnx
              have hj40 : j ≤ 40 := by have := HPL.out; omega
              have hj0 : 0 ≤ (j : Int) := by omega
              have hj1 : (j : Int) < ps.length := by omega
              obtain ⟨n, hn⟩ : ∃ n, ps[j].1 = n := ⟨_, rfl⟩
              obtain ⟨v, hv⟩ : ∃ v, ps[j].2 = v := ⟨_, rfl⟩
              rw [hn, hv] at NX
              have HN := Aside0.mk hn
              have HV := Aside0.mk hv
              have HLT := Aside0.mk hlt
              clear hn hv
              go_upto_region 20 with (first | fail)
              go_region_held3 (fun w' => w'.cell? (a6.add j) = some (.int .i64 v) ∧ w'.cell? (a7.add j) = some (.int .i64 n)) (first | exact ⟨at_snd (HB6.out.below (below_drew HB2.out)) HLT.out HV.out, at_fst (HB7.out.below (below_drew HB2.out)) HLT.out HN.out⟩ | exact ⟨at_snd (HB6.out.below HB3.out) HLT.out HV.out, at_fst (HB7.out.below HB3.out) HLT.out HN.out⟩) (first | (go_at_call 13; refine (NX.out _ HR2.out.drew).mono ?_; rintro e w3 ⟨rfl, hr, hg⟩; have HB3 := Aside0.mk (below_grown (below_drew HB2.out) hg (fun k hk => by cases hk; exact HGG.out)); have HR3 := Aside0.mk hr; clear hr hg))
              all_goals (go_wp2; go_roundw; (case rel => exact ⟨j + 1, by have := HLT.out; omega, by go_num, HR3, HB3⟩); (case measure => have := HLT.out; simp [intOf]; omega))
            · have q1 : decide ((j : Int) < (ps.length : Int)) = false := decide_eq_false (by omega)
              have q1n : decide (j < ps.length) = false := decide_eq_false hlt
              obtain rfl : j = ps.length := by omega
              rw [List.drop_length] at HR2
              have HR3 : Aside0 (RD wr g ⟨[], 0⟩) := HR2
              have HE := Aside0.mk (end_any HR3.out)
              have HLE := Aside0.mk (left_any HR3.out)
              have FB := Aside0.mk (below_step HB8.out HB2.out)
              go_wp2_with (first | (go_at_call 16; refine HE.out.mono ?_; rintro e w' ⟨rfl, rfl⟩) | (go_at_call 15; refine HLE.out.mono ?_; rintro e w' ⟨rfl, rfl⟩))
              go_ret
              exact ⟨rfl, FB.out⟩
      · have d1 : decide ((k : Int) < (L1.length : Int)) = false := decide_eq_false (by omega)
        have d1n : decide (k < L1.length) = false := decide_eq_false i1
        clear hin i1
        have HB8 := Aside0.mk HT.out.ob.bel
        have RDA := Aside0.mk (read_any HB5.out (encB_wf ps) (by have := HEL.out; have := HPL.out; omega))
        clear HT HB5 hk40
        go_wp2_with (first | (go_at_call 11; refine RDA.out.mono ?_; clear RDA; rintro e w2 ⟨g, rfl, hr, hb, hg⟩; have HR := Aside0.mk hr; have HB := Aside0.mk hb; have HGG := Aside0.mk hg; clear hr hb hg))
        go_loopw [14] (fun v14 wq => ∃ j : Nat, j ≤ ps.length ∧ v14 = .int .i64 j ∧ Aside0 (RD wq g ⟨encB (ps.drop j), 0⟩) ∧ Aside0 (Below wr.heap.size wr wq)) (fun v14 _ => ps.length - (intOf v14).toNat)
        case atStart => exact ⟨0, by omega, rfl, HR, HB⟩
        case round =>
          obtain ⟨j, hj, rfl, HR2, HB2⟩ := hrel
          clear HR HB
          by_cases hlt : j < ps.length
          · have q1 : decide ((j : Int) < (ps.length : Int)) = true := decide_eq_true (by omega)
            have q1n : decide (j < ps.length) = true := decide_eq_true hlt
            have hlt6 : j < (ps.map Prod.snd).length := by rw [List.length_map]; exact hlt
            have hlt7 : j < (ps.map Prod.fst).length := by rw [List.length_map]; exact hlt
            obtain ⟨a6, rfl, _⟩ := HB6.out.at_ hlt6
            obtain ⟨a7, rfl, _⟩ := HB7.out.at_ hlt7
            have NX := fun w1 (h : RD w1 g ⟨encB (ps.drop j), 0⟩) => next_any h ps[j].1
            have hen : encB (ps.drop j) = putB ps[j].1 ps[j].2 ++ encB (ps.drop (j + 1)) := by rw [List.drop_eq_getElem_cons hlt]; rfl
            have hnx := next_enc (HG.out ps[j] (List.getElem_mem hlt)) (encB (ps.drop (j + 1)))
            rw [← hen] at hnx
            rw [hnx.1, hnx.2] at NX
            have NX := Aside0.mk NX
            clear hen hnx
            have hj40 : j ≤ 40 := by have := HPL.out; omega
            have hj0 : 0 ≤ (j : Int) := by omega
            have hj1 : (j : Int) < ps.length := by omega
            obtain ⟨n, hn⟩ : ∃ n, ps[j].1 = n := ⟨_, rfl⟩
            obtain ⟨v, hv⟩ : ∃ v, ps[j].2 = v := ⟨_, rfl⟩
            rw [hn, hv] at NX
            have HN := Aside0.mk hn
            have HV := Aside0.mk hv
            have HLT := Aside0.mk hlt
            clear hn hv
            go_upto_region 20 with (first | fail)
            go_region_held3 (fun w' => w'.cell? (a6.add j) = some (.int .i64 v) ∧ w'.cell? (a7.add j) = some (.int .i64 n)) (first | exact ⟨at_snd (HB6.out.below (below_drew HB2.out)) HLT.out HV.out, at_fst (HB7.out.below (below_drew HB2.out)) HLT.out HN.out⟩ | exact ⟨at_snd (HB6.out.below HB3.out) HLT.out HV.out, at_fst (HB7.out.below HB3.out) HLT.out HN.out⟩) (first | (go_at_call 13; refine (NX.out _ HR2.out.drew).mono ?_; rintro e w3 ⟨rfl, hr, hg⟩; have HB3 := Aside0.mk (below_grown (below_drew HB2.out) hg (fun k hk => by cases hk; exact HGG.out)); have HR3 := Aside0.mk hr; clear hr hg))
            all_goals (go_wp2; go_roundw; (case rel => exact ⟨j + 1, by have := HLT.out; omega, by go_num, HR3, HB3⟩); (case measure => have := HLT.out; simp [intOf]; omega))
          · have q1 : decide ((j : Int) < (ps.length : Int)) = false := decide_eq_false (by omega)
            have q1n : decide (j < ps.length) = false := decide_eq_false hlt
            obtain rfl : j = ps.length := by omega
            rw [List.drop_length] at HR2
            have HR3 : Aside0 (RD wr g ⟨[], 0⟩) := HR2
            have HE := Aside0.mk (end_any HR3.out)
            have HLE := Aside0.mk (left_any HR3.out)
            have FB := Aside0.mk (below_step HB8.out HB2.out)
            go_wp2_with (first | (go_at_call 16; refine HE.out.mono ?_; rintro e w' ⟨rfl, rfl⟩) | (go_at_call 15; refine HLE.out.mono ?_; rintro e w' ⟨rfl, rfl⟩))
            go_ret
            exact ⟨rfl, FB.out⟩
end Go.Proofs.Ytjgianmcllkagaa.Wi
