/- For every now, frame and phase: the next tick of a phase is no less than now, less than a frame behind it and of that phase if it was not cut, and no tick between is of that phase; no condition. -/
import Derived.Test.YtckajaddbjmahaaPSatNextx1
set_option linter.unusedVariables false
set_option linter.unusedSimpArgs false
namespace Go.Proofs.Ytckajaddbjmahaa.Pure
open Go.RowKit Go.Proofs.Ytckajaddbjmahaa.PSatNext Go.Proofs.YtckajaddbjmahaaW.PrintWords Go.Proofs.YtckajaddbjmahaaW.PrintLast Go.Proofs.YtckajaddbjmahaaW.PrintMore

/-! ### Layer 1: ticks -/
def cut (n : Int) : Int := if n < 0 then 0 else if 4611686018427387904 < n then 4611686018427387904 else n
def fr (n : Int) : Int := if n < 1 then 1 else if 64 < n then 64 else n
theorem cut_bd (n : Int) : 0 ≤ cut n ∧ cut n ≤ 4611686018427387904 := by
  unfold cut
  split
  · omega
  · split <;> omega
theorem cut_in {n : Int} (h0 : 0 ≤ n) (h1 : n ≤ 4611686018427387904) : cut n = n := by
  unfold cut
  rw [if_neg (by omega), if_neg (by omega)]
theorem cut_neg {n : Int} (h0 : n ≤ 0) : cut n = 0 := by
  unfold cut
  split
  · rfl
  · split <;> omega
theorem cut_big {n : Int} (h0 : 4611686018427387904 ≤ n) : cut n = 4611686018427387904 := by
  unfold cut
  split
  · omega
  · split <;> omega
theorem fr_bd (n : Int) : 1 ≤ fr n ∧ fr n ≤ 64 := by
  unfold fr
  split
  · omega
  · split <;> omega
theorem fr_in {n : Int} (h0 : 1 ≤ n) (h1 : n ≤ 64) : fr n = n := by
  unfold fr
  rw [if_neg (by omega), if_neg (by omega)]
theorem w64_in {n : Int} (h0 : -9223372036854775808 ≤ n) (h1 : n ≤ 9223372036854775807) : wrap64 n = n := by unfold wrap64; omega
theorem wu64 (n : Int) : IntKind.u64.wrap n = n % 18446744073709551616 := by simp [IntKind.wrap, IntKind.bits, IntKind.signed]
theorem i64_bd {n : Int} (h : (Lit.int .i64 n).wf = true) : -9223372036854775808 ≤ n ∧ n ≤ 9223372036854775807 := by
  simp [Lit.wf, IntKind.min, IntKind.max, IntKind.bits, IntKind.signed] at h
  omega
theorem mx_eq (a b : Int) : mx a b = max a b := by
  unfold mx
  split <;> omega
theorem mn_eq (a b : Int) : mn a b = min a b := by
  unfold mn
  split <;> omega
theorem Cut_f (a : Int) : sat_Cut.f a = some (cut a) := by
  unfold sat_Cut.f
  rw [mn_eq, mx_eq]
  unfold cut
  congr 1
  split
  · omega
  · split <;> omega
theorem frame_f (a : Int) : sat_frame.f a = some (fr a) := by
  unfold sat_frame.f
  rw [mn_eq, mx_eq]
  unfold fr
  congr 1
  split
  · omega
  · split <;> omega
theorem Phase_f (a n : Int) : sat_Phase.f a n = some (cut a % fr n) := by
  unfold sat_Phase.f
  rw [Cut_f, frame_f]
  simp only [Option.bind_some]
  have h1 := cut_bd a
  have h2 := fr_bd n
  rw [if_neg (by omega), Int.tmod_eq_emod_of_nonneg h1.1]
theorem Add_f (a b : Int) : sat_Add.f a b = some (cut (cut a + cut b)) := by
  unfold sat_Add.f
  rw [Cut_f, Cut_f]
  simp only [Option.bind_some]
  congr 1
  have h1 := cut_bd a
  have h2 := cut_bd b
  revert h1 h2
  generalize cut a = x
  generalize cut b = y
  intro h1 h2
  rw [w64_in (n := y - 1) (by omega) (by omega), w64_in (n := x + (y - 1)) (by omega) (by omega), mn_eq]
  unfold cut
  rw [w64_in (by omega) (by omega)]
  split
  · omega
  · split <;> omega
theorem cut_add_ge {c g : Int} (h0 : 0 ≤ c) (h1 : c ≤ 4611686018427387904) (hg : 0 ≤ g) : c ≤ cut (c + g) ∧ cut (c + g) ≤ c + g := by
  unfold cut
  split
  · omega
  · split <;> omega

/-- How long to the phase p of a frame of m ticks. -/
def gap (c m p : Int) : Int := if p - c % m < 0 then p - c % m + m else p - c % m
theorem gap_bd {c m p : Int} (hm : 1 ≤ m) (hp0 : 0 ≤ p) (hp : p < m) : 0 ≤ gap c m p ∧ gap c m p < m := by
  have h1 := Int.emod_nonneg c (show m ≠ 0 by omega)
  have h2 := Int.emod_lt_of_pos c (show 0 < m by omega)
  unfold gap
  split <;> omega
theorem Next_f (a n p : Int) (hp : -9223372036854775808 ≤ p ∧ p ≤ 9223372036854775807) : sat_Next.f a n p = some (cut (cut a + gap (cut a) (fr n) (min (max p 0) (fr n - 1)))) := by
  unfold sat_Next.f
  rw [frame_f]
  simp only [Option.bind_some]
  have h1 := cut_bd a
  have h2 := fr_bd n
  rw [Phase_f, fr_in h2.1 h2.2]
  simp only [Option.bind_some]
  have h3 := Int.emod_nonneg (cut a) (show fr n ≠ 0 by omega)
  have h4 := Int.emod_lt_of_pos (cut a) (show 0 < fr n by omega)
  rw [mn_eq, mx_eq, w64_in (n := fr n - 1) (by omega) (by omega)]
  have h5 := gap_bd (c := cut a) h2.1 (show 0 ≤ min (max p 0) (fr n - 1) by omega) (by omega)
  generalize min (max p 0) (fr n - 1) = q at h5
  have h6 : 0 ≤ q ∨ q < 0 := by omega
  unfold gap at h5 ⊢
  have h7 : -9223372036854775808 ≤ q - cut a % fr n ∧ q - cut a % fr n ≤ 9223372036854775807 := by
    split at h5 <;> omega
  rw [w64_in (n := q - cut a % fr n) h7.1 h7.2]
  split
  · rename_i h8
    rw [if_pos h8] at h5
    rw [w64_in (by omega) (by omega), Add_f, cut_in (n := q - cut a % fr n + fr n) (by omega) (by omega)]
    rfl
  · rename_i h8
    rw [if_neg h8] at h5
    rw [Add_f, cut_in (n := q - cut a % fr n) (by omega) (by omega)]
    rfl
theorem lives_t : empennagelaw01_lives.f = some true := by
  unfold empennagelaw01_lives.f
  rw [Add_f, Phase_f, Next_f _ _ _ (by omega)]
  decide +kernel

theorem um (n m : Int) (h0 : 1 ≤ m) (h1 : m ≤ 9223372036854775807) : wrap64 (Int.tmod (IntKind.u64.wrap n) m) = n % 18446744073709551616 % m ∧ 0 ≤ n % 18446744073709551616 % m ∧ n % 18446744073709551616 % m < m := by
  have h2 : 0 ≤ n % 18446744073709551616 := by omega
  have h3 := Int.emod_nonneg (n % 18446744073709551616) (show m ≠ 0 by omega)
  have h4 := Int.emod_lt_of_pos (n % 18446744073709551616) (show 0 < m by omega)
  rw [wu64, Int.tmod_eq_emod_of_nonneg h2, w64_in (by omega) (by omega)]
  exact ⟨rfl, h3, h4⟩
theorem u64_in {n : Int} (h0 : 0 ≤ n) (h1 : n < 18446744073709551616) : IntKind.u64.wrap n = n := by rw [wu64]; omega

theorem emod_once {x F : Int} (h : F ≤ x) (h2 : x < 2 * F) : x % F = x - F := by
  have : (x - F + F) % F = (x - F) % F := Int.add_emod_right ..
  rw [Int.emod_eq_of_lt (a := x - F) (by omega) (by omega)] at this
  rwa [Int.sub_add_cancel] at this
/-- At the gap's end the phase is p; ahead of it it is another one. -/
theorem gap_end {c F P : Int} (hF : 1 ≤ F) (hp0 : 0 ≤ P) (hp : P < F) : (c + gap c F P) % F = P := by
  have h1 := Int.emod_nonneg c (show F ≠ 0 by omega)
  have h2 := Int.emod_lt_of_pos c (show 0 < F by omega)
  rw [← Int.emod_add_emod]
  unfold gap
  split
  · rw [emod_once (by omega) (by omega)]; omega
  · rw [Int.emod_eq_of_lt (by omega) (by omega)]; omega
theorem gap_ahead {c F P j : Int} (hF : 1 ≤ F) (hp0 : 0 ≤ P) (hp : P < F) (hj0 : 0 ≤ j) (hj : j < gap c F P) : (c + j) % F ≠ P := by
  have h1 := Int.emod_nonneg c (show F ≠ 0 by omega)
  have h2 := Int.emod_lt_of_pos c (show 0 < F by omega)
  rw [← Int.emod_add_emod]
  unfold gap at hj
  split at hj
  · by_cases h : c % F + j < F
    · rw [Int.emod_eq_of_lt (by omega) h]; omega
    · rw [emod_once (by omega) (by omega)]; omega
  · rw [Int.emod_eq_of_lt (by omega) (by omega)]; omega

theorem loop_ok {c F P : Int} (hc : 0 ≤ c) (hF : 1 ≤ F) (hF2 : F ≤ 64) (hp0 : 0 ≤ P) (hp : P < F) (ht : c + gap c F P < 4611686018427387904) (d : Nat) : ∀ (k : Nat) (i : Int), c ≤ i → i ≤ c + gap c F P → c + gap c F P - i = d → d < k → empennagelaw01_SatNext.l0 k F P (c + gap c F P) i = some true := by
  have hf : fr F = F := fr_in hF hF2
  induction d with
  | zero =>
    intro k i h0 h1 hd hk
    obtain ⟨k, rfl⟩ : ∃ m, k = m + 1 := ⟨k - 1, by omega⟩
    simp only [empennagelaw01_SatNext.l0]
    rw [if_neg (by omega), Phase_f, cut_in (by omega) (by omega), hf, gap_end hF hp0 hp]
    simp
  | succ d ih =>
    intro k i h0 h1 hd hk
    obtain ⟨k, rfl⟩ : ∃ m, k = m + 1 := ⟨k - 1, by omega⟩
    simp only [empennagelaw01_SatNext.l0]
    have h2 := gap_ahead (c := c) (j := i - c) hF hp0 hp (by omega) (by omega)
    rw [show c + (i - c) = i by omega] at h2
    rw [if_pos (by omega), Phase_f, cut_in (n := i) (by omega) (by omega), hf, w64_in (n := i + 1) (by omega) (by omega)]
    simp only [Option.bind_some]
    rw [if_neg h2]
    exact ih k (i + 1) (by omega) (by omega) (by omega) (by omega)
theorem SatNext : empennagelaw01_SatNext.Pure := by
  intro a n p ha hn hp
  obtain ⟨e1, b1, b2⟩ := um n 64 (by omega) (by omega)
  refine ⟨66, ?_⟩
  unfold empennagelaw01_SatNext.f
  rw [lives_t]
  simp only [Option.bind_some, if_true]
  rw [e1, w64_in (n := 1 + n % 18446744073709551616 % 64) (by omega) (by omega)]
  have hF : 1 ≤ 1 + n % 18446744073709551616 % 64 ∧ 1 + n % 18446744073709551616 % 64 ≤ 64 := by omega
  generalize 1 + n % 18446744073709551616 % 64 = F at hF
  rw [u64_in (n := F) (by omega) (by omega), if_neg (by omega)]
  obtain ⟨e2, b3, b4⟩ := um p F (by omega) (by omega)
  rw [e2]
  generalize p % 18446744073709551616 % F = P at b3 b4 ⊢
  rw [Next_f _ _ _ (by omega), Cut_f, fr_in hF.1 hF.2, show min (max P 0) (F - 1) = P by omega]
  simp only [Option.bind_some]
  have hc := cut_bd a
  generalize cut a = c at hc
  have hg := gap_bd (c := c) hF.1 b3 b4
  rw [if_neg (by have := cut_add_ge hc.1 hc.2 hg.1; omega)]
  simp only [empennagelaw01_SatNext.j0]
  by_cases ht : c + gap c F P < 4611686018427387904
  · rw [cut_in (n := c + gap c F P) (by omega) (by omega), w64_in (n := c + gap c F P - c) (by omega) (by omega), if_neg (by simp; omega), if_neg (by omega)]
    exact loop_ok hc.1 hF.1 hF.2 b3 b4 ht (gap c F P).toNat 65 c (by omega) (by omega) (by omega) (by omega)
  · rw [cut_big (by omega), w64_in (n := 4611686018427387904 - c) (by omega) (by omega), if_neg (by simp; omega), if_pos rfl, w64_in (by omega) (by omega)]
    simp
    omega

end Go.Proofs.Ytckajaddbjmahaa.Pure
