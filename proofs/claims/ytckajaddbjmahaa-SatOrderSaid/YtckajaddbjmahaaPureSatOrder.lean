/- For every two numbers: a sum is no less than each and the same either way, a difference is no more than the first, and what is taken away again leaves the other one where nothing was cut; no condition. -/
import Derived.Test.YtckajaddbjmahaaPSatOrderx1
set_option linter.unusedVariables false
set_option linter.unusedSimpArgs false
namespace Go.Proofs.Ytckajaddbjmahaa.Pure
open Go.RowKit Go.Proofs.Ytckajaddbjmahaa.PSatOrder Go.Proofs.YtckajaddbjmahaaW.PrintWords Go.Proofs.YtckajaddbjmahaaW.PrintLast Go.Proofs.YtckajaddbjmahaaW.PrintMore

/-! ### Layer 1: ticks -/
def cut (n : Int) : Int := if n < 0 then 0 else if 4611686018427387904 < n then 4611686018427387904 else n
def fr (n : Int) : Int := if n < 1 then 1 else if 64 < n then 64 else n
theorem cut_bd (n : Int) : 0 ≤ cut n ∧ cut n ≤ 4611686018427387904 := by
  unfold cut
  split
  · omega
  · split <;> omega
theorem cut_in {n : Int} (h0 : 0 ≤ n) (h1 : n ≤ 4611686018427387904) : cut n = n := by
  unfold cut
  rw [if_neg (by omega), if_neg (by omega)]
theorem cut_neg {n : Int} (h0 : n ≤ 0) : cut n = 0 := by
  unfold cut
  split
  · rfl
  · split <;> omega
theorem cut_big {n : Int} (h0 : 4611686018427387904 ≤ n) : cut n = 4611686018427387904 := by
  unfold cut
  split
  · omega
  · split <;> omega
theorem fr_bd (n : Int) : 1 ≤ fr n ∧ fr n ≤ 64 := by
  unfold fr
  split
  · omega
  · split <;> omega
theorem fr_in {n : Int} (h0 : 1 ≤ n) (h1 : n ≤ 64) : fr n = n := by
  unfold fr
  rw [if_neg (by omega), if_neg (by omega)]
theorem w64_in {n : Int} (h0 : -9223372036854775808 ≤ n) (h1 : n ≤ 9223372036854775807) : wrap64 n = n := by unfold wrap64; omega
theorem wu64 (n : Int) : IntKind.u64.wrap n = n % 18446744073709551616 := by simp [IntKind.wrap, IntKind.bits, IntKind.signed]
theorem i64_bd {n : Int} (h : (Lit.int .i64 n).wf = true) : -9223372036854775808 ≤ n ∧ n ≤ 9223372036854775807 := by
  simp [Lit.wf, IntKind.min, IntKind.max, IntKind.bits, IntKind.signed] at h
  omega
theorem mx_eq (a b : Int) : mx a b = max a b := by
  unfold mx
  split <;> omega
theorem mn_eq (a b : Int) : mn a b = min a b := by
  unfold mn
  split <;> omega
theorem Cut_f (a : Int) : sat_Cut.f a = some (cut a) := by
  unfold sat_Cut.f
  rw [mn_eq, mx_eq]
  unfold cut
  congr 1
  split
  · omega
  · split <;> omega
theorem frame_f (a : Int) : sat_frame.f a = some (fr a) := by
  unfold sat_frame.f
  rw [mn_eq, mx_eq]
  unfold fr
  congr 1
  split
  · omega
  · split <;> omega
theorem Phase_f (a n : Int) : sat_Phase.f a n = some (cut a % fr n) := by
  unfold sat_Phase.f
  rw [Cut_f, frame_f]
  simp only [Option.bind_some]
  have h1 := cut_bd a
  have h2 := fr_bd n
  rw [if_neg (by omega), Int.tmod_eq_emod_of_nonneg h1.1]
theorem Add_f (a b : Int) : sat_Add.f a b = some (cut (cut a + cut b)) := by
  unfold sat_Add.f
  rw [Cut_f, Cut_f]
  simp only [Option.bind_some]
  congr 1
  have h1 := cut_bd a
  have h2 := cut_bd b
  revert h1 h2
  generalize cut a = x
  generalize cut b = y
  intro h1 h2
  rw [w64_in (n := y - 1) (by omega) (by omega), w64_in (n := x + (y - 1)) (by omega) (by omega), mn_eq]
  unfold cut
  rw [w64_in (by omega) (by omega)]
  split
  · omega
  · split <;> omega
theorem cut_add_ge {c g : Int} (h0 : 0 ≤ c) (h1 : c ≤ 4611686018427387904) (hg : 0 ≤ g) : c ≤ cut (c + g) ∧ cut (c + g) ≤ c + g := by
  unfold cut
  split
  · omega
  · split <;> omega

/-- How long to the phase p of a frame of m ticks. -/
def gap (c m p : Int) : Int := if p - c % m < 0 then p - c % m + m else p - c % m
theorem gap_bd {c m p : Int} (hm : 1 ≤ m) (hp0 : 0 ≤ p) (hp : p < m) : 0 ≤ gap c m p ∧ gap c m p < m := by
  have h1 := Int.emod_nonneg c (show m ≠ 0 by omega)
  have h2 := Int.emod_lt_of_pos c (show 0 < m by omega)
  unfold gap
  split <;> omega
theorem Next_f (a n p : Int) (hp : -9223372036854775808 ≤ p ∧ p ≤ 9223372036854775807) : sat_Next.f a n p = some (cut (cut a + gap (cut a) (fr n) (min (max p 0) (fr n - 1)))) := by
  unfold sat_Next.f
  rw [frame_f]
  simp only [Option.bind_some]
  have h1 := cut_bd a
  have h2 := fr_bd n
  rw [Phase_f, fr_in h2.1 h2.2]
  simp only [Option.bind_some]
  have h3 := Int.emod_nonneg (cut a) (show fr n ≠ 0 by omega)
  have h4 := Int.emod_lt_of_pos (cut a) (show 0 < fr n by omega)
  rw [mn_eq, mx_eq, w64_in (n := fr n - 1) (by omega) (by omega)]
  have h5 := gap_bd (c := cut a) h2.1 (show 0 ≤ min (max p 0) (fr n - 1) by omega) (by omega)
  generalize min (max p 0) (fr n - 1) = q at h5
  have h6 : 0 ≤ q ∨ q < 0 := by omega
  unfold gap at h5 ⊢
  have h7 : -9223372036854775808 ≤ q - cut a % fr n ∧ q - cut a % fr n ≤ 9223372036854775807 := by
    split at h5 <;> omega
  rw [w64_in (n := q - cut a % fr n) h7.1 h7.2]
  split
  · rename_i h8
    rw [if_pos h8] at h5
    rw [w64_in (by omega) (by omega), Add_f, cut_in (n := q - cut a % fr n + fr n) (by omega) (by omega)]
    rfl
  · rename_i h8
    rw [if_neg h8] at h5
    rw [Add_f, cut_in (n := q - cut a % fr n) (by omega) (by omega)]
    rfl
theorem lives_t : empennagelaw01_lives.f = some true := by
  unfold empennagelaw01_lives.f
  rw [Add_f, Phase_f, Next_f _ _ _ (by omega)]
  decide +kernel

theorem Sub_f (a b : Int) : sat_Sub.f a b = some (cut (cut a - cut b)) := by
  unfold sat_Sub.f
  rw [Cut_f, Cut_f]
  simp only [Option.bind_some]
  have h1 := cut_bd a
  have h2 := cut_bd b
  rw [w64_in (by omega) (by omega), Cut_f]
  rfl

theorem SatOrder : empennagelaw01_SatOrder.Pure := by
  intro a b ha hb
  unfold empennagelaw01_SatOrder.f sat_Late.f
  rw [lives_t, Cut_f, Cut_f, Add_f, Sub_f, Add_f b a]
  simp only [Option.bind_some, if_true]
  rw [Add_f _ b, Sub_f _ b, Cut_f]
  simp only [Option.bind_some, if_true]
  have hx := cut_bd a
  have hy := cut_bd b
  generalize cut a = x at hx
  generalize cut b = y at hy
  have e : y + x = x + y := by omega
  rw [e]
  have hs := cut_bd (x + y)
  have hd := cut_bd (x - y)
  have hs1 : x + y ≤ 4611686018427387904 ∧ cut (x + y) = x + y ∨ 4611686018427387904 < x + y ∧ cut (x + y) = 4611686018427387904 := by
    by_cases h : x + y ≤ 4611686018427387904
    · exact .inl ⟨h, cut_in (by omega) h⟩
    · exact .inr ⟨by omega, cut_big (by omega)⟩
  have hd1 : 0 ≤ x - y ∧ cut (x - y) = x - y ∨ x - y < 0 ∧ cut (x - y) = 0 := by
    by_cases h : 0 ≤ x - y
    · exact .inl ⟨h, cut_in h (by omega)⟩
    · exact .inr ⟨by omega, cut_neg (by omega)⟩
  have hl : decide (cut (cut (x + y)) ≥ x) = true := by
    rw [cut_in hs.1 hs.2]
    simp
    omega
  rw [hl, cut_in hs.1 hs.2, cut_in hd.1 hd.2]
  have h1 : cut (cut (x + y) - y) = x ∨ cut (x + y) = 4611686018427387904 := by
    rcases hs1 with ⟨h, h'⟩ | ⟨h, h'⟩
    · rw [h']
      exact .inl (by rw [show x + y - y = x by omega]; exact cut_in hx.1 hx.2)
    · exact .inr h'
  have h2 : cut (x - y) = 0 ∨ cut (cut (x - y) + y) = x := by
    rcases hd1 with ⟨h, h'⟩ | ⟨h, h'⟩
    · rw [h']
      exact .inr (by rw [show x - y + y = x by omega]; exact cut_in hx.1 hx.2)
    · exact .inl h'
  rw [if_pos (by omega), if_pos (by omega), if_pos rfl, if_pos (by omega), if_pos (by omega), if_pos (by omega)]
  by_cases h3 : cut (x + y) = 4611686018427387904
  · rw [if_pos h3]
    by_cases h4 : cut (x - y) = 0
    · rw [if_pos h4]
    · rw [if_neg h4, if_pos (h2.resolve_left h4)]
  · rw [if_neg h3, if_pos (h1.resolve_right h3)]
    by_cases h4 : cut (x - y) = 0
    · rw [if_pos h4]
    · rw [if_neg h4, if_pos (h2.resolve_left h4)]

end Go.Proofs.Ytckajaddbjmahaa.Pure
