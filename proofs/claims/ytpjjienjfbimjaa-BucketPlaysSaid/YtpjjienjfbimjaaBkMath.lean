/- Plain laws of buckets. No program in sight. -/
import Derived.Test.YtpjjienjfbimjaaSatMath
set_option linter.unusedVariables false
set_option linter.unusedSimpArgs false
namespace Go.Proofs.Ytpjjienjfbimjaa.Bk
open Go.RowKit Go.Proofs.Ytpjjienjfbimjaa.Sat

structure Bk where
  rate : Int
  cap : Int
  tok : Int
  rnd : Int
deriving DecidableEq
structure Bk.Ok (B : Bk) : Prop where
  r0 : 0 ≤ B.rate
  r1 : B.rate ≤ 64
  c0 : 1 ≤ B.cap
  c1 : B.cap ≤ 64
  t0 : 0 ≤ B.tok
  t1 : B.tok ≤ B.cap
  n0 : 0 ≤ B.rnd
  n1 : B.rnd ≤ 4611686018427387904
def make (rate most : Int) : Bk := ⟨min (max rate 0) 64, min (max most 1) 64, min (max most 1) 64, 0⟩
theorem make_ok (rate most : Int) : (make rate most).Ok := ⟨by simp only [make]; omega, by simp only [make]; omega, by simp only [make]; omega, by simp only [make]; omega, by simp only [make]; omega, by simp only [make]; omega, by simp only [make]; omega, by simp only [make]; omega⟩
/-- It comes to a round. -/
def come (B : Bk) (r : Int) : Bk := if cut r ≤ B.rnd then B else { B with tok := min (B.tok + B.rate * (cut r - B.rnd)) B.cap, rnd := cut r }
theorem come_old {B : Bk} {r : Int} (h : cut r ≤ B.rnd) : come B r = B := by unfold come; rw [if_pos h]
theorem come_rate (B : Bk) (r : Int) : (come B r).rate = B.rate := by unfold come; split <;> rfl
theorem come_cap (B : Bk) (r : Int) : (come B r).cap = B.cap := by unfold come; split <;> rfl
theorem come_rnd (B : Bk) (r : Int) : (come B r).rnd = max B.rnd (cut r) := by
  unfold come
  split
  · omega
  · simp only []
    omega
theorem come_ok {B : Bk} (h : B.Ok) (r : Int) : (come B r).Ok := by
  obtain ⟨r0, r1, c0, c1, t0, t1, n0, n1⟩ := h
  have hc := cut_bd r
  unfold come
  split
  · exact ⟨r0, r1, c0, c1, t0, t1, n0, n1⟩
  · rename_i hlt
    have hm : 0 ≤ B.rate * (cut r - B.rnd) := Int.mul_nonneg r0 (by omega)
    exact ⟨r0, r1, c0, c1, by simp only []; omega, by simp only []; omega, by simp only []; omega, by simp only []; omega⟩
/-- What the Go text of come reckons. -/
theorem come_text {B : Bk} (h : B.Ok) (r : Int) : min (tadd B.tok (tmul B.rate (tsub r B.rnd))) B.cap = (come B r).tok ∧ tadd B.rnd (tsub r B.rnd) = (come B r).rnd := by
  obtain ⟨r0, r1, c0, c1, t0, t1, n0, n1⟩ := h
  have hc := cut_bd r
  have hs : tsub r B.rnd = cut (cut r - B.rnd) := by unfold tsub; rw [cut_in (n := B.rnd) n0 n1]
  unfold come
  by_cases hle : cut r ≤ B.rnd
  · rw [if_pos hle, hs, cut_neg (n := cut r - B.rnd) (by omega)]
    have e0 : tmul B.rate 0 = 0 := by unfold tmul; rw [show cut 0 = 0 by decide +kernel, Int.mul_zero]; decide +kernel
    rw [e0]
    have e1 : tadd B.tok 0 = B.tok := by unfold tadd; rw [show cut 0 = 0 by decide +kernel, cut_in (n := B.tok) t0 (by omega), Int.add_zero, cut_in t0 (by omega)]
    have e2 : tadd B.rnd 0 = B.rnd := by unfold tadd; rw [show cut 0 = 0 by decide +kernel, cut_in (n := B.rnd) n0 n1, Int.add_zero, cut_in n0 n1]
    rw [e1, e2]
    omega
  · rw [if_neg hle, hs]
    have eg : cut (cut r - B.rnd) = cut r - B.rnd := cut_in (by omega) (by omega)
    rw [eg]
    have hm : 0 ≤ B.rate * (cut r - B.rnd) := Int.mul_nonneg r0 (by omega)
    have em : tmul B.rate (cut r - B.rnd) = cut (B.rate * (cut r - B.rnd)) := by unfold tmul; rw [eg, cut_in (n := B.rate) r0 (by omega)]
    have en : tadd B.rnd (cut r - B.rnd) = cut r := by unfold tadd; rw [eg, cut_in (n := B.rnd) n0 n1, show B.rnd + (cut r - B.rnd) = cut r by omega, cut_in hc.1 hc.2]
    rw [em, en]
    refine ⟨?_, rfl⟩
    simp only []
    generalize B.rate * (cut r - B.rnd) = z at hm
    unfold tadd
    rw [cut_in (n := B.tok) t0 (by omega), cut_in (n := cut z) (cut_bd z).1 (cut_bd z).2]
    by_cases hz : z ≤ 4611686018427387904
    · rw [cut_in (n := z) hm hz]
      by_cases hz2 : B.tok + z ≤ 4611686018427387904
      · rw [cut_in (by omega) hz2]
      · rw [cut_big (by omega)]
        omega
    · rw [cut_big (n := z) (by omega), cut_big (by omega)]
      omega
def took (B : Bk) (r : Int) : Bool := (come B r).tok != 0
def take (B : Bk) (r : Int) : Bk := if (come B r).tok = 0 then come B r else { come B r with tok := (come B r).tok - 1 }
theorem take_none {B : Bk} {r : Int} (h : (come B r).tok = 0) : take B r = come B r := by unfold take; rw [if_pos h]
theorem take_some {B : Bk} {r : Int} (h : ¬ (come B r).tok = 0) : take B r = { come B r with tok := (come B r).tok - 1 } := by unfold take; rw [if_neg h]
theorem take_ok {B : Bk} (h : B.Ok) (r : Int) : (take B r).Ok := by
  have hk := come_ok h r
  unfold take
  split
  · exact hk
  · rename_i hne
    obtain ⟨r0, r1, c0, c1, t0, t1, n0, n1⟩ := hk
    exact ⟨r0, r1, c0, c1, by simp only []; omega, by simp only []; omega, n0, n1⟩
theorem take_rate (B : Bk) (r : Int) : (take B r).rate = B.rate := by unfold take; split <;> simp [come_rate]
theorem take_cap (B : Bk) (r : Int) : (take B r).cap = B.cap := by unfold take; split <;> simp [come_cap]
theorem take_rnd (B : Bk) (r : Int) : (take B r).rnd = max B.rnd (cut r) := by unfold take; split <;> simp [come_rnd]
/-- What Wait tells, and whether there is any. -/
def waitN (B : Bk) (r : Int) : Int := if 0 < (come B r).tok then (come B r).rnd else if B.rate = 0 ∨ (come B r).rnd = 4611686018427387904 then 0 else (come B r).rnd + 1
def waitIs (B : Bk) (r : Int) : Bool := if 0 < (come B r).tok then true else if B.rate = 0 ∨ (come B r).rnd = 4611686018427387904 then false else true
def reset (B : Bk) (r : Int) : Bk := { come B r with tok := (come B r).cap }
theorem reset_ok {B : Bk} (h : B.Ok) (r : Int) : (reset B r).Ok := by
  obtain ⟨r0, r1, c0, c1, t0, t1, n0, n1⟩ := come_ok h r
  exact ⟨r0, r1, c0, c1, by simp only [reset]; omega, by simp only [reset]; omega, n0, n1⟩
def most (rate cap rounds : Int) : Int := tadd (make rate cap).cap (tmul (make rate cap).rate rounds)
theorem come_come {B : Bk} (h : B.Ok) {r s : Int} (hrs : cut r ≤ cut s) : come (come B r) s = come B s := by
  by_cases h1 : cut r ≤ B.rnd
  · rw [come_old h1]
  · have e1 : come B r = { B with tok := min (B.tok + B.rate * (cut r - B.rnd)) B.cap, rnd := cut r } := by unfold come; rw [if_neg h1]
    have e2 : come B s = { B with tok := min (B.tok + B.rate * (cut s - B.rnd)) B.cap, rnd := cut s } := by unfold come; rw [if_neg (by omega)]
    by_cases h2 : cut s ≤ cut r
    · rw [e1, come_old (by simpa using h2), e2, show cut s = cut r by omega]
    · obtain ⟨r0, r1, c0, c1, t0, t1, n0, n1⟩ := h
      rw [e2, e1]
      unfold come
      simp only []
      rw [if_neg h2]
      have m1 : 0 ≤ B.rate * (cut r - B.rnd) := Int.mul_nonneg r0 (by omega)
      have m2 : 0 ≤ B.rate * (cut s - cut r) := Int.mul_nonneg r0 (by omega)
      have m3 : B.rate * (cut s - B.rnd) = B.rate * (cut r - B.rnd) + B.rate * (cut s - cut r) := by rw [← Int.mul_add]; congr 1; omega
      rw [m3]
      generalize B.rate * (cut r - B.rnd) = x at m1 ⊢
      generalize B.rate * (cut s - cut r) = y at m2 ⊢
      congr 1
      omega
/-- It comes to the rounds 0, 1, .. one by one. -/
def comes (B : Bk) : Nat → Bk
  | 0 => B
  | k + 1 => come (comes B k) k
theorem comes_ok {B : Bk} (h : B.Ok) (k : Nat) : (comes B k).Ok := by
  induction k with
  | zero => exact h
  | succ k ih => exact come_ok ih _
theorem comes_eq {B : Bk} (h : B.Ok) (k : Nat) (hk : (k : Int) ≤ 4611686018427387904) : comes B (k + 1) = come B k := by
  induction k with
  | zero => rfl
  | succ k ih =>
    show come (comes B (k + 1)) _ = _
    rw [ih (by omega)]
    exact come_come h (by rw [cut_in (by omega) (by omega), cut_in (by omega) (by omega)]; omega)
end Go.Proofs.Ytpjjienjfbimjaa.Bk
