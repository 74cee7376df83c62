/- Layer 3 (wire): slices.Clone, few, is, most, sums. -/
import Derived.Test.YtjgianmcllkagaaWiMath
set_option linter.unusedVariables false
set_option linter.unusedSimpArgs false
namespace Go.Proofs.Ytjgianmcllkagaa.Wi
open Go.RowKit Go.Proofs.YtjgianmcllkagaaW.PrintWords Go.Proofs.YtjgianmcllkagaaW.PrintLast Go.Proofs.YtjgianmcllkagaaW.PrintMore
attribute [local go_sem] max2_int min2_int max_two min_two max_three min_three max_four min_four
theorem info8 : (Try.prog.info? 5).map (fun i => (i.zero, i.size, i.bytes)) = some (some (.int .u8 0), 1, 1) := by kernel_rfl
theorem info64 : (Try.prog.info? 3).map (fun i => (i.zero, i.size, i.bytes)) = some (some (.int .i64 0), 1, 8) := by kernel_rfl
theorem eqnil8 (w : World) (a : Option Addr) (n c : Nat) : (binOp .eql 22 (.slice a n c) (.slice none 0 0)).run Try.prog w = .ok (.bool a.isNone) w := Lib.run_eql_slice_nil w _ _ a n c 0 0 Try.underlying22
attribute [local go_sem] eqnil8 Option.isNone_some Option.isNone_none
theorem clone_any {A : Option Addr} {c : Nat} {xs : List Int} {w : World} (h : CI .u8 w A c xs) (hl : xs.length ≤ 1000) :
    Calls Try.prog 27 #[.slice A xs.length c] w fun e w' => ∃ v, e = .returned v ∧ OI .u8 5 w w' v xs := by
  have H := Aside0.mk h
  have HL := Aside0.mk hl
  rcases A with _ | ad
  · have hz : xs = [] := by
      rcases xs with _ | ⟨x, t⟩
      · rfl
      · obtain ⟨ad, e, _⟩ := h.at_ (i := 0) (by simp)
        cases e
    subst hz
    clear h hl
    go_enter Try.func27, Try.ntmps27
    go_wp2
    go_ret
    exact ⟨_, rfl, OI.nil _ _ (Below.refl _ _)⟩
  · clear h hl
    go_enter Try.func27, Try.ntmps27
    go_wp2_with (first | ((with_reducible refine gate_dst (N := 5) rfl ?_); refine lit_ints (k := .u8) (e := 5) ?hg (N := 5) ?hd [] #[] ?hr ?hi ?hm ?_; (case hd => rfl); (case hg => rfl); (case hr => first | (go_simp; done) | (go_simp; rfl)); (case hi => rfl); (case hm => simp); intro B w1 _ hB) | ((with_reducible refine gate_builtin (b := .append) (xs := #[.tmp 5, .tmp 6]) rfl ?_); at_builtin; refine app_ints (k := .u8) (w0 := w) rfl (.tmp 5) (.tmp 6) 22 1 rfl Try.underlying22 info8 (by decide) (by decide) _ [] xs _ _ _ rfl rfl rfl ?aO ?aR ?aL ?_; (case aL => have := HL.out; simp; omega); (case aR => exact H.out.below hB.bel); (case aO => exact hB); intro v w2 ho hg hat))
    go_ret
    exact ⟨_, rfl, by simpa using ho⟩
theorem few_any {A : Option Addr} {c : Nat} {xs : List Int} {w : World} (h : CI .u8 w A c xs) (hl : xs.length ≤ maxLen) :
    Calls Try.prog 10 #[.slice A xs.length c] w fun e w' => e = .returned (.slice A (min xs.length 200) c) ∧ w = w' := by
  have hc := h.le
  unfold maxLen at hl
  obtain ⟨i, hi, _⟩ := info_parts info8
  obtain ⟨j, hj⟩ : ∃ j : Nat, min xs.length 200 = j := ⟨_, rfl⟩
  have hj' : ((if (200 : Int) < (xs.length : Int) then (200 : Int) else (xs.length : Int)) = (j : Int)) := by
    rw [← hj]
    split <;> omega
  have hcut := cut_to (P := Try.prog) 22 5 .i64 Try.underlying22 hi A xs.length c (j : Int) (by omega) (by omega) hc
  rw [hj]
  clear h hj hi
  go_enter Try.func10, Try.ntmps10
  go_wp2
  go_ret
  exact ⟨rfl, rfl⟩
theorem is_any (n : Int) (w : World) : Calls Try.prog 29 #[.int .i64 n] w fun e w' => e = .returned (.bool (lim n != 0)) ∧ w = w' := by
  by_cases h1 : n = 1
  · subst h1
    go_enter Try.func29, Try.ntmps29
    go_wp2
    go_ret
    exact ⟨rfl, rfl⟩
  · by_cases h2 : n = 2
    · subst h2
      go_enter Try.func29, Try.ntmps29
      go_wp2
      go_ret
      exact ⟨rfl, rfl⟩
    · have e1 : (n == 1) = false := beq_eq_false_iff_ne.mpr h1
      have e2 : (n == 2) = false := beq_eq_false_iff_ne.mpr h2
      have e3 : (lim n != 0) = (n == 4) := by
        unfold lim
        rw [if_neg h1, if_neg h2]
        by_cases h4 : n = 4
        · subst h4; rfl
        · rw [if_neg h4]
          simp [h4]
      rw [e3]
      clear h1 h2 e3
      go_enter Try.func29, Try.ntmps29
      go_wp2
      go_ret
      exact ⟨rfl, rfl⟩
theorem most_any (n : Int) (w : World) : Calls Try.prog 28 #[.int .i64 n] w fun e w' => e = .returned (.int .i64 (lim n)) ∧ w = w' := by
  by_cases h1 : n = 1
  · subst h1
    go_enter Try.func28, Try.ntmps28
    go_wp2
    go_ret
    exact ⟨rfl, rfl⟩
  · by_cases h2 : n = 2
    · subst h2
      go_enter Try.func28, Try.ntmps28
      go_wp2
      go_ret
      exact ⟨rfl, rfl⟩
    · by_cases h4 : n = 4
      · subst h4
        go_enter Try.func28, Try.ntmps28
        go_wp2
        go_ret
        exact ⟨rfl, rfl⟩
      · have e1 : (n == 1) = false := beq_eq_false_iff_ne.mpr h1
        have e2 : (n == 2) = false := beq_eq_false_iff_ne.mpr h2
        have e4 : (n == 4) = false := beq_eq_false_iff_ne.mpr h4
        have e : lim n = 0 := by unfold lim; rw [if_neg h1, if_neg h2, if_neg h4]
        rw [e]
        clear h1 h2 h4 e
        go_enter Try.func28, Try.ntmps28
        go_wp2
        go_ret
        exact ⟨rfl, rfl⟩
theorem w64 {x : Int} (h : -9223372036854775808 ≤ x) (h' : x < 9223372036854775808) : wrap64 x = x := by unfold wrap64; omega
theorem sum_any {A : Option Addr} {c : Nat} {xs : List Int} {w : World} (h : CI .u8 w A c xs) (hf : WF xs) (hl : xs.length ≤ 1000) :
    Calls Try.prog 21 #[.slice A xs.length c] w fun e w' => e = .returned (.int .i64 (sumB xs)) ∧ w = w' := by
  have H := Aside0.mk h
  have HF := Aside0.mk hf
  have HS := Aside0.mk (sum_bound hf)
  clear h hf
  go_enter Try.func21, Try.ntmps21
  go_wp2
  go_loopw [3, 8] (fun v3 v8 wr => ∃ k : Nat, k ≤ xs.length ∧ v3 = .int .i64 (xs.take k).sum ∧ v8 = .int .i64 k ∧ Aside0 (w = wr)) (fun _ v8 _ => xs.length - (intOf v8).toNat)
  case atStart => exact ⟨0, by omega, rfl, rfl, ⟨rfl⟩⟩
  case round =>
    obtain ⟨k, hk, rfl, rfl, HWW⟩ := hrel
    obtain rfl := HWW.out
    clear HWW
    have hb := sum_bound (HF.out.take k)
    have hlk : (xs.take k).length = k := by rw [List.length_take]; omega
    rw [hlk] at hb
    by_cases hlt : k < xs.length
    · obtain ⟨ad, rfl, hcell⟩ := H.out.at_ hlt
      have hr := wf_rd HF.out hlt
      have hs : (xs.take (k + 1)).sum = (xs.take k).sum + rd xs k := by rw [take_succ_rd hlt, sum_snoc]
      have HT := Aside0.mk hs
      clear hs
      generalize rd xs k = x at hcell hr HT
      generalize (xs.take k).sum = s at hb HT
      have e1 : wrap64 x = x := w64 (by omega) (by omega)
      have e2 : wrap64 (s + x) = s + x := w64 (by omega) (by omega)
      have hk0 : 0 ≤ (k : Int) := by omega
      have hk1 : (k : Int) < xs.length := by omega
      go_wp2
      go_roundw
      case rel => exact ⟨k + 1, by omega, by rw [HT.out], by go_num, ⟨by first | rfl | trivial⟩⟩
      case measure => simp [intOf]; omega
    · have hk' : xs.take k = xs := List.take_of_length_le (by omega)
      have hd : decide ((k : Int) < (xs.length : Int)) = false := decide_eq_false (by omega)
      rw [hk']
      clear hk'
      have e : sumB xs = Int.tmod (xs.sum) 65536 := by
        unfold sumB
        have := HS.out
        rw [Int.tmod_eq_emod_of_nonneg (by omega)]
      clear hb hlk
      have E := Aside0.mk e
      clear e
      generalize xs.sum = s at E
      go_wp2
      go_ret
      exact ⟨by rw [E.out]; rfl, rfl⟩
theorem rSum_any {A : Option Addr} {c : Nat} {xs : List Int} {w : World} (h : CI .u8 w A c xs) (hf : WF xs) (hl : xs.length ≤ 1000) :
    Calls Try.prog 22 #[.slice A xs.length c] w fun e w' => e = .returned (.int .i64 (sumB xs)) ∧ w = w' := by
  have H := Aside0.mk h
  have HF := Aside0.mk hf
  clear h hf
  go_enter Try.func22, Try.ntmps22
  go_wp2
  go_loopw [3, 4] (fun v3 v8 wr => ∃ k : Nat, k ≤ xs.length ∧ v3 = .int .i64 (sumB (xs.take k)) ∧ v8 = .int .i64 k ∧ Aside0 (w = wr)) (fun _ v8 _ => xs.length - (intOf v8).toNat)
  case atStart => exact ⟨0, by omega, rfl, rfl, ⟨rfl⟩⟩
  case round =>
    obtain ⟨k, hk, rfl, rfl, HWW⟩ := hrel
    obtain rfl := HWW.out
    clear HWW
    have hb := sumB_bound (xs.take k)
    by_cases hlt : k < xs.length
    · obtain ⟨ad, rfl, hcell⟩ := H.out.at_ hlt
      have hr := wf_rd HF.out hlt
      have hs : sumB (xs.take (k + 1)) = (sumB (xs.take k) + rd xs k) % 65536 := by
        unfold sumB
        rw [take_succ_rd hlt, sum_snoc]
        omega
      have HT := Aside0.mk hs
      clear hs
      generalize rd xs k = x at hcell hr HT
      generalize sumB (xs.take k) = s at hb HT
      have e1 : wrap64 x = x := w64 (by omega) (by omega)
      have e2 : wrap64 (s + x) = s + x := w64 (by omega) (by omega)
      have e3 : Int.tmod (s + x) 65536 = (s + x) % 65536 := Int.tmod_eq_emod_of_nonneg (by omega)
      have hk0 : 0 ≤ (k : Int) := by omega
      have hk1 : (k : Int) < xs.length := by omega
      go_wp2
      go_roundw
      case rel => exact ⟨k + 1, by omega, by rw [HT.out, ← e3], by go_num, ⟨by first | rfl | trivial⟩⟩
      case measure => simp [intOf]; omega
    · have hk' : xs.take k = xs := List.take_of_length_le (by omega)
      have hd : decide ((k : Int) < (xs.length : Int)) = false := decide_eq_false (by omega)
      rw [hk']
      clear hk'
      clear hb
      go_wp2
      go_ret
      exact ⟨rfl, rfl⟩
end Go.Proofs.Ytjgianmcllkagaa.Wi
