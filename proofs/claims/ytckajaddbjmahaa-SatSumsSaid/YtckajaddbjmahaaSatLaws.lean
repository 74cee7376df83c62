/- Walks of the seat of layer 1 that the print does not take: the laws SatGroups (an array as its argument) and SatSums. -/
import Derived.Test.YtckajaddbjmahaaSat
set_option linter.unusedVariables false
set_option linter.unusedSimpArgs false
namespace Go.Proofs.Ytckajaddbjmahaa.Sat
open Go.RowKit Go.Proofs.YtckajaddbjmahaaW.PrintWords Go.Proofs.YtckajaddbjmahaaW.PrintLast Go.Proofs.YtckajaddbjmahaaW.PrintMore
attribute [local go_sem] max2_int min2_int max_two min_two max_three min_three max_four min_four

def tnext (a n p : Int) : Int := cut (cut a + gap (cut a) (fr n) (min (max p 0) (fr n - 1)))
theorem next_any (a n p : Int) (w : World) (hp : -9223372036854775808 ≤ p ∧ p ≤ 9223372036854775807) : Calls Try.prog 11 #[.int .i64 a, .int .i64 n, .int .i64 p] w fun e w' => e = .returned (.int .i64 (tnext a n p)) ∧ w = w' := by
  obtain ⟨p1, p2⟩ := cut_bd a
  obtain ⟨p3, p4⟩ := hp
  obtain ⟨f1, f2⟩ := fr_bd n
  have h3 := Int.emod_nonneg (cut a) (show fr n ≠ 0 by omega)
  have h4 := Int.emod_lt_of_pos (cut a) (show 0 < fr n by omega)
  have hff : fr (fr n) = fr n := fr_in f1 f2
  obtain ⟨m, hm⟩ : ∃ m : Int, (if p < 0 then 0 else p) = m := ⟨_, rfl⟩
  have hm2 : m = max p 0 := by
    rw [← hm]
    split <;> omega
  have HM := Lib.hid hm2
  have m1 : 0 ≤ m := by omega
  clear hm2
  by_cases hA : fr n - 1 < m
  · have hA' : fr n ≤ m := by omega
    have hg := gap_bd (c := cut a) f1 (show 0 ≤ fr n - 1 by omega) (by omega)
    have hu : gap (cut a) (fr n) (fr n - 1) = fr n - 1 - cut a % fr n := by unfold gap; rw [if_neg (by omega)]
    have he : tadd a (fr n - 1 - cut a % fr n) = tnext a n p := by
      unfold tadd tnext
      rw [← HM.out, show min m (fr n - 1) = fr n - 1 by omega, hu, cut_in (n := fr n - 1 - cut a % fr n) (by omega) (by omega)]
    have HE := Lib.hid he
    have c' : 0 ≤ fr n - 1 - cut a % fr n := by omega
    clear he hg hu
    go_enter Try.func11, Try.ntmps11
    go_wp2_with (first | (go_at_call 27; refine (frame_any _ _).mono ?_; rintro e w' ⟨rfl, rfl⟩) | (go_at_call 13; refine (phase_any _ _ _).mono ?_; rintro e w' ⟨rfl, rfl⟩) | (go_at_call 18; refine (add_any _ _ _).mono ?_; rintro e w' ⟨rfl, rfl⟩))
    go_ret
    exact ⟨ret_int HE.out, rfl⟩
  · have hA' : m ≤ fr n - 1 := by omega
    have hg := gap_bd (c := cut a) f1 m1 (by omega)
    by_cases c : m - cut a % fr n < 0
    · have he : tadd a (m - cut a % fr n + fr n) = tnext a n p := by
        have hu : gap (cut a) (fr n) m = m - cut a % fr n + fr n := by unfold gap; rw [if_pos c]
        unfold tadd tnext
        rw [← HM.out, show min m (fr n - 1) = m by omega, hu, cut_in (n := m - cut a % fr n + fr n) (by omega) (by omega)]
      have HE := Lib.hid he
      clear he hg
      go_enter Try.func11, Try.ntmps11
      go_wp2_with (first | (go_at_call 27; refine (frame_any _ _).mono ?_; rintro e w' ⟨rfl, rfl⟩) | (go_at_call 13; refine (phase_any _ _ _).mono ?_; rintro e w' ⟨rfl, rfl⟩) | (go_at_call 18; refine (add_any _ _ _).mono ?_; rintro e w' ⟨rfl, rfl⟩))
      go_ret
      exact ⟨ret_int HE.out, rfl⟩
    · have he : tadd a (m - cut a % fr n) = tnext a n p := by
        have hu : gap (cut a) (fr n) m = m - cut a % fr n := by unfold gap; rw [if_neg c]
        unfold tadd tnext
        rw [← HM.out, show min m (fr n - 1) = m by omega, hu, cut_in (n := m - cut a % fr n) (by omega) (by omega)]
      have HE := Lib.hid he
      clear he hg
      go_enter Try.func11, Try.ntmps11
      go_wp2_with (first | (go_at_call 27; refine (frame_any _ _).mono ?_; rintro e w' ⟨rfl, rfl⟩) | (go_at_call 13; refine (phase_any _ _ _).mono ?_; rintro e w' ⟨rfl, rfl⟩) | (go_at_call 18; refine (add_any _ _ _).mono ?_; rintro e w' ⟨rfl, rfl⟩))
      go_ret
      exact ⟨ret_int HE.out, rfl⟩
theorem lives_any (w : World) : Calls Try.prog 10 #[] w fun e w' => e = .returned (.bool true) ∧ w = w' := by
  have e1 : (tadd 4611686018427387904 1 == 4611686018427387904) = true := by decide +kernel
  have e2 : (cut 70 % fr 64 == 6) = true := by decide +kernel
  have e3 : (tnext 70 64 5 == 133) = true := by decide +kernel
  go_enter Try.func10, Try.ntmps10
  go_wp2_with (first | (go_at_call 18; refine (add_any _ _ _).mono ?_; rintro e w' ⟨rfl, rfl⟩) | (go_at_call 13; refine (phase_any _ _ _).mono ?_; rintro e w' ⟨rfl, rfl⟩) | (go_at_call 11; refine (next_any _ _ _ _ (by omega)).mono ?_; rintro e w' ⟨rfl, rfl⟩))
  go_ret
  exact ⟨rfl, rfl⟩
theorem tadd_comm (a b : Int) : tadd a b = tadd b a := by unfold tadd; rw [Int.add_comm]
theorem tadd_assoc (a b c : Int) : tadd (tadd a b) c = tadd a (tadd b c) := by
  unfold tadd
  have h1 := cut_bd a
  have h2 := cut_bd b
  have h3 := cut_bd c
  generalize cut a = x at h1
  generalize cut b = y at h2
  generalize cut c = z at h3
  have e1 := cut_bd (x + y)
  have e2 := cut_bd (y + z)
  rw [cut_in e1.1 e1.2, cut_in e2.1 e2.2]
  by_cases hxy : x + y ≤ 4611686018427387904
  · rw [cut_in (n := x + y) (by omega) hxy]
    by_cases hyz : y + z ≤ 4611686018427387904
    · rw [cut_in (n := y + z) (by omega) hyz, Int.add_assoc]
    · rw [cut_big (n := y + z) (by omega), cut_big (by omega), cut_big (by omega)]
  · rw [cut_big (n := x + y) (by omega), cut_big (by omega), cut_big (n := x + cut (y + z))]
    have := cut_add_ge h2.1 h2.2 h3.1
    omega
theorem tmul_comm (a b : Int) : tmul a b = tmul b a := by unfold tmul; rw [Int.mul_comm]
theorem tmul_one (a : Int) : tmul a 1 = cut a := by
  unfold tmul
  have h1 := cut_bd a
  rw [show cut 1 = 1 by decide +kernel, Int.mul_one, cut_in h1.1 h1.2]
theorem tmul_zero (a : Int) : tmul a 0 = 0 := by
  unfold tmul
  rw [show cut 0 = 0 by decide +kernel, Int.mul_zero]
  decide +kernel
theorem tmul_succ {x y : Int} (hx0 : 0 ≤ x) (hx : x < 1073741824) (hy0 : 0 ≤ y) (hy : y < 1073741824) : tmul x (y + 1) = tadd (tmul x y) x := by
  have h0 : 0 ≤ x * y := Int.mul_nonneg hx0 hy0
  have h1 : x * y ≤ 1073741824 * 1073741824 := Int.mul_le_mul (by omega) (by omega) hy0 (by omega)
  have e : x * (y + 1) = x * y + x := by rw [Int.mul_add, Int.mul_one]
  unfold tmul tadd
  rw [cut_in (n := x) (by omega) (by omega), cut_in (n := y) (by omega) (by omega), cut_in (n := y + 1) (by omega) (by omega), e, cut_in (n := x * y) (by omega) (by omega), cut_in (n := x * y) (by omega) (by omega)]
set_option maxRecDepth 100000 in
theorem groups_any (a b c : Int) (w : World) : Calls Try.prog 8 #[.agg #[.int .i64 a, .int .i64 b, .int .i64 c]] w fun e w' => e = .returned (.bool true) ∧ Below w.heap.size w w' := by
  obtain ⟨p1, p2⟩ := cut_bd a
  obtain ⟨q1, q2⟩ := cut_bd b
  have e1 : (tadd (tadd a b) c == tadd a (tadd b c)) = true := by rw [tadd_assoc]; simp
  have e2 : (tmul (cut a % 1073741824) (cut b % 1073741824 + 1) == tadd (tmul (cut a % 1073741824) (cut b % 1073741824)) (cut a % 1073741824)) = true := by
    rw [tmul_succ (by omega) (by omega) (by omega) (by omega)]; simp
  have e3 : (tmul a b == tmul b a) = true := by rw [tmul_comm]; simp
  have e4 : (tmul a 1 == cut a) = true := by rw [tmul_one]; simp
  have e5 : (tmul a 0 == 0) = true := by rw [tmul_zero]; simp
  go_enter Try.func8, Try.ntmps8
  go_wp2_with (first | (go_at_call 10; refine (lives_any _).mono ?_; rintro e w' ⟨rfl, rfl⟩))
  go_quiet (fail)
  go_wp2_with (first | (go_at_call 12; refine (cut_any _ _).mono ?_; rintro e w' ⟨rfl, rfl⟩) | (go_at_call 18; refine (add_any _ _ _).mono ?_; rintro e w' ⟨rfl, rfl⟩) | (go_at_call 24; refine (mul_any _ _ _).mono ?_; rintro e w' ⟨rfl, rfl⟩))
  go_ret
  refine ⟨rfl, ?_⟩
  repeat (first | exact Below.refl _ _ | apply below_alloc | apply pw_below_drewN | apply below_drew)
theorem rcut_any (a : Int) (w : World) : Calls Try.prog 23 #[.int .i64 a] w fun e w' => e = .returned (.int .i64 (cut a)) ∧ w = w' := by
  by_cases c1 : a < 0
  · have c1' : decide (a < 0) = true := decide_eq_true c1
    have hr : cut a = 0 := cut_neg (by omega)
    have HR := Lib.hid hr
    clear hr c1
    go_enter Try.func23, Try.ntmps23
    go_wp2
    go_ret
    exact ⟨ret_int HR.out.symm, rfl⟩
  · have c1' : decide (a < 0) = false := decide_eq_false c1
    by_cases c2 : 4611686018427387904 < a
    · have c2' : decide (4611686018427387904 < a) = true := decide_eq_true c2
      have hr : cut a = 4611686018427387904 := cut_big (by omega)
      have HR := Lib.hid hr
      clear hr c1 c2
      go_enter Try.func23, Try.ntmps23
      go_wp2
      go_ret
      exact ⟨ret_int HR.out.symm, rfl⟩
    · have c2' : decide (4611686018427387904 < a) = false := decide_eq_false c2
      have hr : cut a = a := cut_in (by omega) (by omega)
      have HR := Lib.hid hr
      clear hr c1 c2
      go_enter Try.func23, Try.ntmps23
      go_wp2
      go_ret
      exact ⟨ret_int HR.out.symm, rfl⟩
theorem radd_any (a b : Int) (w : World) : Calls Try.prog 25 #[.int .i64 a, .int .i64 b] w fun e w' => e = .returned (.int .i64 (tadd a b)) ∧ w = w' := by
  obtain ⟨p1, p2⟩ := cut_bd a
  obtain ⟨q1, q2⟩ := cut_bd b
  by_cases c : 4611686018427387904 - cut b < cut a
  · have c' : decide (4611686018427387904 - cut b < cut a) = true := decide_eq_true c
    have hr : tadd a b = 4611686018427387904 := cut_big (by omega)
    have HR := Lib.hid hr
    clear hr
    go_enter Try.func25, Try.ntmps25
    go_wp2_with (first | (go_at_call 23; refine (rcut_any _ _).mono ?_; rintro e w' ⟨rfl, rfl⟩))
    go_ret
    exact ⟨ret_int HR.out.symm, rfl⟩
  · have c' : decide (4611686018427387904 - cut b < cut a) = false := decide_eq_false c
    have hr : tadd a b = cut a + cut b := cut_in (by omega) (by omega)
    have HR := Lib.hid hr
    clear hr
    go_enter Try.func25, Try.ntmps25
    go_wp2_with (first | (go_at_call 23; refine (rcut_any _ _).mono ?_; rintro e w' ⟨rfl, rfl⟩))
    go_ret
    exact ⟨ret_int HR.out.symm, rfl⟩
theorem rsub_any (a b : Int) (w : World) : Calls Try.prog 22 #[.int .i64 a, .int .i64 b] w fun e w' => e = .returned (.int .i64 (tsub a b)) ∧ w = w' := by
  obtain ⟨p1, p2⟩ := cut_bd a
  obtain ⟨q1, q2⟩ := cut_bd b
  go_enter Try.func22, Try.ntmps22
  go_wp2_with (first | (go_at_call 23; refine (rcut_any _ _).mono ?_; rintro e w' ⟨rfl, rfl⟩))
  go_ret
  exact ⟨rfl, rfl⟩
theorem rmul_math {x y : Int} (hx0 : 0 < x) (hx : x ≤ 4611686018427387904) (hy0 : 0 ≤ y) : (4611686018427387904 / x < y → 4611686018427387904 ≤ x * y) ∧ (¬ 4611686018427387904 / x < y → x * y ≤ 4611686018427387904) := by
  have h := Int.mul_ediv_add_emod 4611686018427387904 x
  have h2 := Int.emod_nonneg 4611686018427387904 (show x ≠ 0 by omega)
  have h3 := Int.emod_lt_of_pos 4611686018427387904 hx0
  constructor
  · intro hlt
    have : x * (4611686018427387904 / x + 1) ≤ x * y := Int.mul_le_mul_of_nonneg_left (by omega) (by omega)
    rw [Int.mul_add, Int.mul_one] at this
    omega
  · intro hge
    have : x * y ≤ x * (4611686018427387904 / x) := Int.mul_le_mul_of_nonneg_left (by omega) (by omega)
    omega
theorem rmul_any (a b : Int) (w : World) : Calls Try.prog 26 #[.int .i64 a, .int .i64 b] w fun e w' => e = .returned (.int .i64 (tmul a b)) ∧ w = w' := by
  obtain ⟨p1, p2⟩ := cut_bd a
  obtain ⟨q1, q2⟩ := cut_bd b
  by_cases c0 : 0 < cut a
  · have c0' : decide (0 < cut a) = true := decide_eq_true c0
    obtain ⟨m1, m2⟩ := rmul_math c0 p2 q1
    have hz : (cut a == 0) = false := beq_eq_false_iff_ne.mpr (by omega)
    have hz2 : (cut a != 0) = true := bne_iff_ne.mpr (by omega)
    have d0 : 0 ≤ 4611686018427387904 / cut a := Int.ediv_nonneg (by omega) p1
    have d1 : 4611686018427387904 / cut a ≤ 4611686018427387904 := Int.ediv_le_self _ (by omega)
    have t0 : 0 ≤ cut a * cut b := Int.mul_nonneg p1 q1
    by_cases c : 4611686018427387904 / cut a < cut b
    · have c' : decide (4611686018427387904 / cut a < cut b) = true := decide_eq_true c
      have hr : tmul a b = 4611686018427387904 := cut_big (m1 c)
      have HR := Lib.hid hr
      clear hr m1 m2 t0
      go_enter Try.func26, Try.ntmps26
      go_wp2_with (first | (go_at_call 23; refine (rcut_any _ _).mono ?_; rintro e w' ⟨rfl, rfl⟩))
      go_ret
      exact ⟨ret_int HR.out.symm, rfl⟩
    · have c' : decide (4611686018427387904 / cut a < cut b) = false := decide_eq_false c
      have t1 := m2 c
      have hr : wrap64 (cut a * cut b) = tmul a b := (w64_in (by omega) (by omega)).trans (cut_in t0 t1).symm
      have HR := Lib.hid hr
      clear hr m1 m2 t0 t1
      go_enter Try.func26, Try.ntmps26
      go_wp2_with (first | (go_at_call 23; refine (rcut_any _ _).mono ?_; rintro e w' ⟨rfl, rfl⟩))
      go_ret
      exact ⟨ret_int HR.out, rfl⟩
  · have c0' : decide (0 < cut a) = false := decide_eq_false c0
    have hr : wrap64 (cut a * cut b) = tmul a b := by
      unfold tmul
      rw [show cut a = 0 by omega, Int.zero_mul]
      decide +kernel
    have HR := Lib.hid hr
    clear hr
    go_enter Try.func26, Try.ntmps26
    go_wp2_with (first | (go_at_call 23; refine (rcut_any _ _).mono ?_; rintro e w' ⟨rfl, rfl⟩))
    go_ret
    exact ⟨ret_int HR.out, rfl⟩
theorem sums_any (a b : Int) (w : World) : Calls Try.prog 9 #[.int .i64 a, .int .i64 b] w fun e w' => e = .returned (.bool true) ∧ Below w.heap.size w w' := by
  go_enter Try.func9, Try.ntmps9
  go_wp2_with (first | (go_at_call 10; refine (lives_any _).mono ?_; rintro e w' ⟨rfl, rfl⟩) | (go_at_call 12; refine (cut_any _ _).mono ?_; rintro e w' ⟨rfl, rfl⟩) | (go_at_call 18; refine (add_any _ _ _).mono ?_; rintro e w' ⟨rfl, rfl⟩) | (go_at_call 24; refine (mul_any _ _ _).mono ?_; rintro e w' ⟨rfl, rfl⟩) | (go_at_call 19; refine (sub_any _ _ _).mono ?_; rintro e w' ⟨rfl, rfl⟩) | (go_at_call 23; refine (rcut_any _ _).mono ?_; rintro e w' ⟨rfl, rfl⟩) | (go_at_call 25; refine (radd_any _ _ _).mono ?_; rintro e w' ⟨rfl, rfl⟩) | (go_at_call 26; refine (rmul_any _ _ _).mono ?_; rintro e w' ⟨rfl, rfl⟩) | (go_at_call 22; refine (rsub_any _ _ _).mono ?_; rintro e w' ⟨rfl, rfl⟩))
  go_ret
  exact ⟨rfl, Below.refl _ _⟩
end Go.Proofs.Ytckajaddbjmahaa.Sat
