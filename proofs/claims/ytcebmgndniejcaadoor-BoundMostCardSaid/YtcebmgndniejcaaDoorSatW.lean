/- The contracts of layer 1 (sat): each call answers by the plain function of XSatMath and leaves the world as it is. -/
import Derived.Test.YtcebmgndniejcaaDoorBase
import Derived.Test.YtcebmgndniejcaaDoorSatMath
set_option linter.unusedVariables false
set_option linter.unusedSimpArgs false
namespace Go.Proofs.YtcebmgndniejcaaDoor.Sat
open Go.RowKit Go.Proofs.YtcebmgndniejcaaDoorW.PrintWords Go.Proofs.YtcebmgndniejcaaDoorW.PrintLast Go.Proofs.YtcebmgndniejcaaDoorW.PrintMore
attribute [local go_sem] max2_int min2_int max_two min_two max_three min_three max_four min_four

theorem ret_int {k : IntKind} {a b : Int} (h : a = b) : Ending.returned (.int k a) = .returned (.int k b) := by rw [h]
theorem ret_bool {a b : Bool} (h : a = b) : Ending.returned (.bool a) = .returned (.bool b) := by rw [h]
theorem ret_two {k : IntKind} {a b c d : Int} (h : a = b) (h' : c = d) : Ending.returned (.tuple #[.int k a, .int k c]) = .returned (.tuple #[.int k b, .int k d]) := by rw [h, h']
theorem cut_any (a : Int) (w : World) : Calls Tryd.prog 45 #[.int .i64 a] w fun e w' => e = .returned (.int .i64 (cut a)) ∧ w = w' := by
  obtain ⟨m, hm⟩ : ∃ m : Int, (if a < 0 then 0 else a) = m := ⟨_, rfl⟩
  have hm2 : (if 4611686018427387904 < m then 4611686018427387904 else m) = cut a := by
    rw [← hm]
    unfold cut
    split
    · rfl
    · rfl
  go_enter Tryd.func45, Tryd.ntmps45
  go_wp2
  go_ret
  exact ⟨rfl, rfl⟩
theorem frame_any (a : Int) (w : World) : Calls Tryd.prog 57 #[.int .i64 a] w fun e w' => e = .returned (.int .i64 (fr a)) ∧ w = w' := by
  obtain ⟨m, hm⟩ : ∃ m : Int, (if a < 1 then 1 else a) = m := ⟨_, rfl⟩
  have hm2 : (if 64 < m then 64 else m) = fr a := by
    rw [← hm]
    unfold fr
    split <;> rfl
  go_enter Tryd.func57, Tryd.ntmps57
  go_wp2
  go_ret
  exact ⟨rfl, rfl⟩
theorem add_math {x y m : Int} (h1 : 0 ≤ x ∧ x ≤ 4611686018427387904) (h2 : 0 ≤ y ∧ y ≤ 4611686018427387904) (hm : (if 4611686018427387903 < x + (y - 1) then 4611686018427387903 else x + (y - 1)) = m) : m + 1 = cut (x + y) ∧ -1 ≤ m ∧ m ≤ 4611686018427387903 := by
  unfold cut
  rw [if_neg (show ¬ x + y < 0 by omega)]
  split at hm
  · split <;> omega
  · split <;> omega
set_option maxRecDepth 100000 in
theorem add_any (a b : Int) (w : World) : Calls Tryd.prog 29 #[.int .i64 a, .int .i64 b] w fun e w' => e = .returned (.int .i64 (tadd a b)) ∧ w = w' := by
  have h1 := cut_bd a
  have h2 := cut_bd b
  obtain ⟨m, hm⟩ : ∃ m : Int, (if 4611686018427387903 < cut a + (cut b - 1) then 4611686018427387903 else cut a + (cut b - 1)) = m := ⟨_, rfl⟩
  obtain ⟨h3, h4, h5⟩ := add_math h1 h2 hm
  have H3 := Lib.hid h3
  clear h3
  obtain ⟨p1, p2⟩ := h1
  obtain ⟨q1, q2⟩ := h2
  go_enter Tryd.func29, Tryd.ntmps29
  go_wp2_with (first | (go_at_call 45; refine (cut_any a _).mono ?_; rintro e w' ⟨rfl, rfl⟩) | (go_at_call 45; refine (cut_any b _).mono ?_; rintro e w' ⟨rfl, rfl⟩))
  go_ret
  exact ⟨ret_int H3.out, rfl⟩
theorem mul64_any (x y : Int) (w : World) (hx0 : 0 ≤ x) (hx : x ≤ 4611686018427387904) (hy0 : 0 ≤ y) (hy : y ≤ 4611686018427387904) : Calls Tryd.prog 56 #[.int .u64 x, .int .u64 y] w fun e w' => e = .returned (.tuple #[.int .u64 (mulHi x y), .int .u64 (mulLo x y)]) ∧ w = w' := by
  have e := Mul64_f hx0 hx hy0 hy
  simp only [mul64f, Option.some.injEq, Prod.mk.injEq] at e
  obtain ⟨e1, e2⟩ := e
  have E1 := Lib.hid e1
  have E2 := Lib.hid e2
  clear e1 e2 hx0 hx hy0 hy
  go_enter Tryd.func56, Tryd.ntmps56
  go_wp2
  go_ret2
  exact ⟨ret_two E1.out E2.out, rfl⟩
theorem mul_math {x y : Int} (h1 : 0 ≤ x ∧ x ≤ 4611686018427387904) (h2 : 0 ≤ y ∧ y ≤ 4611686018427387904) : 0 ≤ mulHi x y ∧ 0 ≤ mulLo x y ∧ mulLo x y < 18446744073709551616 ∧ (mulHi x y = 0 → x * y = mulLo x y) ∧ (0 < mulHi x y → 18446744073709551616 ≤ x * y) := by
  have h3 : 0 ≤ x * y := Int.mul_nonneg h1.1 h2.1
  unfold mulHi mulLo
  generalize x * y = z at h3
  omega
theorem mul_any (a b : Int) (w : World) : Calls Tryd.prog 42 #[.int .i64 a, .int .i64 b] w fun e w' => e = .returned (.int .i64 (tmul a b)) ∧ w = w' := by
  have h1 := cut_bd a
  have h2 := cut_bd b
  obtain ⟨m1, m2, m3, m4, m5⟩ := mul_math h1 h2
  have hx : IntKind.u64.wrap (cut a) = cut a := u64_in h1.1 (by omega)
  have hy : IntKind.u64.wrap (cut b) = cut b := u64_in h2.1 (by omega)
  have hres : 0 < mulHi (cut a) (cut b) ∨ 4611686018427387904 < mulLo (cut a) (cut b) → tmul a b = 4611686018427387904 := by
    intro h
    refine cut_big ?_
    rcases h with h | h
    · have := m5 h; omega
    · rcases Int.lt_or_eq_of_le m1 with h' | h'
      · have := m5 h'; omega
      · have := m4 h'.symm; omega
  have hres2 : ¬ 0 < mulHi (cut a) (cut b) → ¬ 4611686018427387904 < mulLo (cut a) (cut b) → tmul a b = mulLo (cut a) (cut b) := by
    intro h h'
    have := m4 (by omega)
    unfold tmul
    rw [this]
    exact cut_in m2 (by omega)
  have HR := Lib.hid hres
  have HR2 := Lib.hid hres2
  clear hres hres2 m4 m5
  have HM : ∀ w : World, Calls Tryd.prog 56 #[.int .u64 (cut a), .int .u64 (cut b)] w fun e w' => e = .returned (.tuple #[.int .u64 (mulHi (cut a) (cut b)), .int .u64 (mulLo (cut a) (cut b))]) ∧ w = w' := fun w => mul64_any _ _ w h1.1 h1.2 h2.1 h2.2
  have HMh := Lib.hid HM
  clear HM
  obtain ⟨p1, p2⟩ := h1
  obtain ⟨q1, q2⟩ := h2
  by_cases c1 : 0 < mulHi (cut a) (cut b)
  · have c1' : decide (0 < mulHi (cut a) (cut b)) = true := decide_eq_true c1
    go_enter Tryd.func42, Tryd.ntmps42
    go_wp2_with (first | (go_at_call 45; refine (cut_any _ _).mono ?_; rintro e w' ⟨rfl, rfl⟩) | (go_at_call 56; refine (HMh.out _).mono ?_; rintro e w' ⟨rfl, rfl⟩))
    go_ret
    exact ⟨ret_int (HR.out (.inl c1)).symm, rfl⟩
  · have c1' : decide (0 < mulHi (cut a) (cut b)) = false := decide_eq_false c1
    by_cases c2 : 4611686018427387904 < mulLo (cut a) (cut b)
    · have c2' : decide (4611686018427387904 < mulLo (cut a) (cut b)) = true := decide_eq_true c2
      go_enter Tryd.func42, Tryd.ntmps42
      go_wp2_with (first | (go_at_call 45; refine (cut_any _ _).mono ?_; rintro e w' ⟨rfl, rfl⟩) | (go_at_call 56; refine (HMh.out _).mono ?_; rintro e w' ⟨rfl, rfl⟩))
      go_ret
      exact ⟨ret_int (HR.out (.inr c2)).symm, rfl⟩
    · have c2' : decide (4611686018427387904 < mulLo (cut a) (cut b)) = false := decide_eq_false c2
      go_enter Tryd.func42, Tryd.ntmps42
      go_wp2_with (first | (go_at_call 45; refine (cut_any _ _).mono ?_; rintro e w' ⟨rfl, rfl⟩) | (go_at_call 56; refine (HMh.out _).mono ?_; rintro e w' ⟨rfl, rfl⟩))
      go_ret
      exact ⟨ret_int (HR2.out c1 c2).symm, rfl⟩
theorem phase_any (a n : Int) (w : World) : Calls Tryd.prog 44 #[.int .i64 a, .int .i64 n] w fun e w' => e = .returned (.int .i64 (cut a % fr n)) ∧ w = w' := by
  obtain ⟨p1, p2⟩ := cut_bd a
  obtain ⟨q1, q2⟩ := fr_bd n
  go_enter Tryd.func44, Tryd.ntmps44
  go_wp2_with (first | (go_at_call 45; refine (cut_any _ _).mono ?_; rintro e w' ⟨rfl, rfl⟩) | (go_at_call 57; refine (frame_any _ _).mono ?_; rintro e w' ⟨rfl, rfl⟩))
  go_ret
  exact ⟨rfl, rfl⟩
theorem round_any (a n : Int) (w : World) : Calls Tryd.prog 43 #[.int .i64 a, .int .i64 n] w fun e w' => e = .returned (.int .i64 (cut a / fr n)) ∧ w = w' := by
  obtain ⟨p1, p2⟩ := cut_bd a
  obtain ⟨q1, q2⟩ := fr_bd n
  go_enter Tryd.func43, Tryd.ntmps43
  go_wp2_with (first | (go_at_call 45; refine (cut_any _ _).mono ?_; rintro e w' ⟨rfl, rfl⟩) | (go_at_call 57; refine (frame_any _ _).mono ?_; rintro e w' ⟨rfl, rfl⟩))
  go_ret
  exact ⟨rfl, rfl⟩
end Go.Proofs.YtcebmgndniejcaaDoor.Sat
