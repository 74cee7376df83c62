/- Plain laws of ticks: numbers cut to 0..2^62, frames, phases. No program in sight. -/
import Derived.Test.YtcebmgndniejcaaDoorWMore
import Derived.Laws.BitsLemmas
set_option linter.unusedVariables false
set_option linter.unusedSimpArgs false
namespace Go.Proofs.YtcebmgndniejcaaDoor.Sat
open Go.RowKit Go.Proofs.YtcebmgndniejcaaDoorW.PrintWords Go.Proofs.YtcebmgndniejcaaDoorW.PrintLast Go.Proofs.YtcebmgndniejcaaDoorW.PrintMore

/-! ### Layer 1: ticks -/
def cut (n : Int) : Int := if n < 0 then 0 else if 4611686018427387904 < n then 4611686018427387904 else n
def fr (n : Int) : Int := if n < 1 then 1 else if 64 < n then 64 else n
theorem cut_bd (n : Int) : 0 ≤ cut n ∧ cut n ≤ 4611686018427387904 := by
  unfold cut
  split
  · omega
  · split <;> omega
theorem cut_in {n : Int} (h0 : 0 ≤ n) (h1 : n ≤ 4611686018427387904) : cut n = n := by
  unfold cut
  rw [if_neg (by omega), if_neg (by omega)]
theorem cut_neg {n : Int} (h0 : n ≤ 0) : cut n = 0 := by
  unfold cut
  split
  · rfl
  · split <;> omega
theorem cut_big {n : Int} (h0 : 4611686018427387904 ≤ n) : cut n = 4611686018427387904 := by
  unfold cut
  split
  · omega
  · split <;> omega
theorem fr_bd (n : Int) : 1 ≤ fr n ∧ fr n ≤ 64 := by
  unfold fr
  split
  · omega
  · split <;> omega
theorem fr_in {n : Int} (h0 : 1 ≤ n) (h1 : n ≤ 64) : fr n = n := by
  unfold fr
  rw [if_neg (by omega), if_neg (by omega)]
theorem w64_in {n : Int} (h0 : -9223372036854775808 ≤ n) (h1 : n ≤ 9223372036854775807) : wrap64 n = n := by unfold wrap64; omega
theorem wu64 (n : Int) : IntKind.u64.wrap n = n % 18446744073709551616 := by simp [IntKind.wrap, IntKind.bits, IntKind.signed]
theorem i64_bd {n : Int} (h : (Lit.int .i64 n).wf = true) : -9223372036854775808 ≤ n ∧ n ≤ 9223372036854775807 := by
  simp [Lit.wf, IntKind.min, IntKind.max, IntKind.bits, IntKind.signed] at h
  omega
theorem mx_eq (a b : Int) : mx a b = max a b := by
  unfold mx
  split <;> omega
theorem mn_eq (a b : Int) : mn a b = min a b := by
  unfold mn
  split <;> omega
theorem cut_add_ge {c g : Int} (h0 : 0 ≤ c) (h1 : c ≤ 4611686018427387904) (hg : 0 ≤ g) : c ≤ cut (c + g) ∧ cut (c + g) ≤ c + g := by
  unfold cut
  split
  · omega
  · split <;> omega
/-- How long to the phase p of a frame of m ticks. -/
def gap (c m p : Int) : Int := if p - c % m < 0 then p - c % m + m else p - c % m
theorem gap_bd {c m p : Int} (hm : 1 ≤ m) (hp0 : 0 ≤ p) (hp : p < m) : 0 ≤ gap c m p ∧ gap c m p < m := by
  have h1 := Int.emod_nonneg c (show m ≠ 0 by omega)
  have h2 := Int.emod_lt_of_pos c (show 0 < m by omega)
  unfold gap
  split <;> omega
theorem emod_once {x F : Int} (h : F ≤ x) (h2 : x < 2 * F) : x % F = x - F := by
  have : (x - F + F) % F = (x - F) % F := Int.add_emod_right ..
  rw [Int.emod_eq_of_lt (a := x - F) (by omega) (by omega)] at this
  rwa [Int.sub_add_cancel] at this
/-- At the gap's end the phase is p; ahead of it it is another one. -/
theorem gap_end {c F P : Int} (hF : 1 ≤ F) (hp0 : 0 ≤ P) (hp : P < F) : (c + gap c F P) % F = P := by
  have h1 := Int.emod_nonneg c (show F ≠ 0 by omega)
  have h2 := Int.emod_lt_of_pos c (show 0 < F by omega)
  rw [← Int.emod_add_emod]
  unfold gap
  split
  · rw [emod_once (by omega) (by omega)]; omega
  · rw [Int.emod_eq_of_lt (by omega) (by omega)]; omega
theorem gap_ahead {c F P j : Int} (hF : 1 ≤ F) (hp0 : 0 ≤ P) (hp : P < F) (hj0 : 0 ≤ j) (hj : j < gap c F P) : (c + j) % F ≠ P := by
  have h1 := Int.emod_nonneg c (show F ≠ 0 by omega)
  have h2 := Int.emod_lt_of_pos c (show 0 < F by omega)
  rw [← Int.emod_add_emod]
  unfold gap at hj
  split at hj
  · by_cases h : c % F + j < F
    · rw [Int.emod_eq_of_lt (by omega) h]; omega
    · rw [emod_once (by omega) (by omega)]; omega
  · rw [Int.emod_eq_of_lt (by omega) (by omega)]; omega
theorem um (n m : Int) (h0 : 1 ≤ m) (h1 : m ≤ 9223372036854775807) : wrap64 (Int.tmod (IntKind.u64.wrap n) m) = n % 18446744073709551616 % m ∧ 0 ≤ n % 18446744073709551616 % m ∧ n % 18446744073709551616 % m < m := by
  have h2 : 0 ≤ n % 18446744073709551616 := by omega
  have h3 := Int.emod_nonneg (n % 18446744073709551616) (show m ≠ 0 by omega)
  have h4 := Int.emod_lt_of_pos (n % 18446744073709551616) (show 0 < m by omega)
  rw [wu64, Int.tmod_eq_emod_of_nonneg h2, w64_in (by omega) (by omega)]
  exact ⟨rfl, h3, h4⟩
theorem u64_in {n : Int} (h0 : 0 ≤ n) (h1 : n < 18446744073709551616) : IntKind.u64.wrap n = n := by rw [wu64]; omega
theorem wraps_u64 (n : Int) (h₀ : 0 ≤ n) (h₁ : n < 2 ^ 64) : IntKind.u64.wrap n = n := by rw [wu64]; omega
theorem and32 {x : Int} (h₀ : 0 ≤ x) (h₁ : x < 18446744073709551616) : Go.bits .and .u64 x 4294967295 = x % 4294967296 :=
  bits_mask .u64 64 (by decide) wraps_u64 32 (by decide) x h₀ h₁
theorem mul64_math {p q r s : Int} (hp0 : 0 ≤ p) (hp : p ≤ 1152921504606846976) (hq0 : 0 ≤ q) (hq : q ≤ 4611686018427387904) (hr0 : 0 ≤ r) (hr : r ≤ 4611686018427387904) (hs0 : 0 ≤ s) (hs : s ≤ 18446744065119617025) :
    ((p + (q + s / 4294967296) / 4294967296) + ((q + s / 4294967296) % 4294967296 + r) / 4294967296) = (p * 18446744073709551616 + (q + r) * 4294967296 + s) / 18446744073709551616 := by omega

/-- What bits.Mul64 reckons, as its text has it. -/
def mul64f (a0 a1 : Int) : Option (Int × Int) := some (IntKind.u64.wrap ((IntKind.u64.wrap ((IntKind.u64.wrap ((a0 / 4294967296) * (a1 / 4294967296))) + ((IntKind.u64.wrap ((IntKind.u64.wrap ((a0 / 4294967296) * (Go.bits .and .u64 a1 4294967295))) + ((IntKind.u64.wrap ((Go.bits .and .u64 a0 4294967295) * (Go.bits .and .u64 a1 4294967295))) / 4294967296))) / 4294967296))) + ((IntKind.u64.wrap ((Go.bits .and .u64 (IntKind.u64.wrap ((IntKind.u64.wrap ((a0 / 4294967296) * (Go.bits .and .u64 a1 4294967295))) + ((IntKind.u64.wrap ((Go.bits .and .u64 a0 4294967295) * (Go.bits .and .u64 a1 4294967295))) / 4294967296))) 4294967295) + (IntKind.u64.wrap ((Go.bits .and .u64 a0 4294967295) * (a1 / 4294967296))))) / 4294967296)), IntKind.u64.wrap (a0 * a1))
theorem Mul64_f {x y : Int} (hx0 : 0 ≤ x) (hx : x ≤ 4611686018427387904) (hy0 : 0 ≤ y) (hy : y ≤ 4611686018427387904) : mul64f x y = some (x * y / 18446744073709551616, x * y % 18446744073709551616) := by
  unfold mul64f
  rw [and32 hx0 (by omega), and32 hy0 (by omega)]
  obtain ⟨a, b, rfl, ha0, ha, hb0, hb⟩ : ∃ a b : Int, x = a * 4294967296 + b ∧ 0 ≤ a ∧ a ≤ 1073741824 ∧ 0 ≤ b ∧ b ≤ 4294967295 := ⟨x / 4294967296, x % 4294967296, by omega, by omega, by omega, by omega, by omega⟩
  obtain ⟨c, d, rfl, hc0, hc, hd0, hd⟩ : ∃ c d : Int, y = c * 4294967296 + d ∧ 0 ≤ c ∧ c ≤ 1073741824 ∧ 0 ≤ d ∧ d ≤ 4294967295 := ⟨y / 4294967296, y % 4294967296, by omega, by omega, by omega, by omega, by omega⟩
  rw [show (a * 4294967296 + b) / 4294967296 = a by omega, show (a * 4294967296 + b) % 4294967296 = b by omega, show (c * 4294967296 + d) / 4294967296 = c by omega, show (c * 4294967296 + d) % 4294967296 = d by omega]
  have hp0 : 0 ≤ a * c := Int.mul_nonneg ha0 hc0
  have hp : a * c ≤ 1073741824 * 1073741824 := Int.mul_le_mul ha hc hc0 (by omega)
  have hq0 : 0 ≤ a * d := Int.mul_nonneg ha0 hd0
  have hq : a * d ≤ 1073741824 * 4294967295 := Int.mul_le_mul ha hd hd0 (by omega)
  have hr0 : 0 ≤ b * c := Int.mul_nonneg hb0 hc0
  have hr : b * c ≤ 4294967295 * 1073741824 := Int.mul_le_mul hb hc hc0 (by omega)
  have hs0 : 0 ≤ b * d := Int.mul_nonneg hb0 hd0
  have hs : b * d ≤ 4294967295 * 4294967295 := Int.mul_le_mul hb hd hd0 (by omega)
  have e : (a * 4294967296 + b) * (c * 4294967296 + d) = (a * c) * 18446744073709551616 + (a * d + b * c) * 4294967296 + b * d := by
    rw [Int.add_mul, Int.mul_add, Int.mul_add, Int.add_mul]
    have e1 : a * 4294967296 * (c * 4294967296) = a * c * 18446744073709551616 := by
      rw [Int.mul_assoc, Int.mul_left_comm 4294967296, ← Int.mul_assoc]
      rfl
    have e2 : a * 4294967296 * d = a * d * 4294967296 := by rw [Int.mul_right_comm]
    have e3 : b * (c * 4294967296) = b * c * 4294967296 := by rw [Int.mul_assoc]
    rw [e1, e2, e3]
    omega
  rw [e]
  revert hp0 hp hq0 hq hr0 hr hs0 hs
  generalize a * c = p
  generalize a * d = q
  generalize b * c = r
  generalize b * d = s
  intro hp0 hp hq0 hq hr0 hr hs0 hs
  rw [wraps_u64 p (by omega) (by omega), wraps_u64 q (by omega) (by omega), wraps_u64 s (by omega) (by omega), wraps_u64 r (by omega) (by omega), wraps_u64 (q + s / 4294967296) (by omega) (by omega), and32 (by omega) (by omega),
    wraps_u64 (p + (q + s / 4294967296) / 4294967296) (by omega) (by omega), wraps_u64 ((q + s / 4294967296) % 4294967296 + r) (by omega) (by omega), wraps_u64 _ (by omega) (by omega), wu64, mul64_math hp0 (by omega) hq0 (by omega) hr0 (by omega) hs0 (by omega)]

def tadd (a b : Int) : Int := cut (cut a + cut b)
def tsub (a b : Int) : Int := cut (cut a - cut b)
def tmul (a b : Int) : Int := cut (cut a * cut b)
def mulHi (x y : Int) : Int := x * y / 18446744073709551616
def mulLo (x y : Int) : Int := x * y % 18446744073709551616
end Go.Proofs.YtcebmgndniejcaaDoor.Sat
