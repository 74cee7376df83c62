/- Layer 4 (config): the document's Right (and in): it is the program's. -/
import Derived.Test.YtdebbanloopcgaaDoorCzR
set_option linter.unusedVariables false
set_option linter.unusedSimpArgs false
namespace Go.Proofs.YtdebbanloopcgaaDoor.Cz
open Go.RowKit Go.Proofs.YtdebbanloopcgaaDoorW.PrintWords Go.Proofs.YtdebbanloopcgaaDoorW.PrintLast Go.Proofs.YtdebbanloopcgaaDoorW.PrintMore
attribute [local go_sem] max2_int min2_int max_two min_two max_three min_three max_four min_four Tryd.underlying57
theorem btw_iff {a b c : Int} : btw a b c = true ↔ b ≤ a ∧ a ≤ c := ⟨btw_true, fun h => decide_eq_true h⟩
theorem rin_any (a b c : Int) (w : World) : Calls Tryd.prog 71 #[.int .i64 a, .int .i64 b, .int .i64 c] w fun e w' => e = .returned (.bool (btw a b c)) ∧ w = w' := by
  by_cases h : b ≤ a
  · have e : btw a b c = decide (a ≤ c) := by unfold btw; simp [h]
    have d : decide (b ≤ a) = true := decide_eq_true h
    rw [e]
    clear h e
    go_enter Tryd.func71, Tryd.ntmps71
    go_wp2
    go_ret
    exact ⟨rfl, rfl⟩
  · have e : btw a b c = false := by unfold btw; simp [h]
    have d : decide (b ≤ a) = false := decide_eq_false h
    rw [e]
    clear h e
    go_enter Tryd.func71, Tryd.ntmps71
    go_wp2
    go_ret
    exact ⟨rfl, rfl⟩
def rrB (p x0 x1 x2 x3 x4 x5 x6 x7 x8 x9 x10 : Int) : Bool := !(!btw x0 0 1 || (decide (x1 < 0) || (decide (p ≤ x1) || (decide (x2 < 0) || (decide (p ≤ x2) || ((x1 == x2) || !btw x3 1 4)))))) &&
  (if (x0 == 0) = true then btw x4 1 65536 && ((x5 == 0) && ((x6 == 0) && ((x7 == 0) && ((x8 == 0) && ((x9 == 0) && (x10 == 0))))))
   else (x4 == 0) && (btw x5 1 3 && (btw x6 1 8 && (btw x7 1 8 && (btw x8 1 65536 && (btw x9 0 64 && btw x10 1 64))))))
theorem rrB_is (p x0 x1 x2 x3 x4 x5 x6 x7 x8 x9 x10 : Int) : rrB p x0 x1 x2 x3 x4 x5 x6 x7 x8 x9 x10 = rightB p x0 x1 x2 x3 x4 x5 x6 x7 x8 x9 x10 := by
  unfold rrB rightB
  obtain ⟨mn, hmn⟩ : ∃ mn, (if x2 < x1 then x2 else x1) = mn := ⟨_, rfl⟩
  obtain ⟨mx, hmx⟩ : ∃ mx, (if x1 < x2 then x2 else x1) = mx := ⟨_, rfl⟩
  rw [hmn, hmx, Bool.eq_iff_iff]
  have e1 : 0 ≤ mn ↔ 0 ≤ x1 ∧ 0 ≤ x2 := by rw [← hmn]; split <;> omega
  have e2 : mx < p ↔ x1 < p ∧ x2 < p := by rw [← hmx]; split <;> omega
  clear hmn hmx
  simp only [Bool.and_eq_true, Bool.not_eq_true', decide_eq_false_iff_not, beq_eq_false_iff_ne, btw_iff, beq_iff_eq, Bool.or_eq_false_iff, Bool.not_eq_false']
  by_cases h0 : x0 = 0
  · rw [if_pos h0, if_neg (by omega), if_pos h0]
    simp only [Bool.and_eq_true, beq_iff_eq, btw_iff]
    omega
  · rw [if_neg h0]
    by_cases h1 : x0 = 1
    · rw [if_pos h1]
      simp only [Bool.and_eq_true, Bool.not_eq_true', bne_eq_false_iff_eq, btw_iff, beq_iff_eq]
      omega
    · rw [if_neg h1, if_neg h0]
      simp only [Bool.false_eq_true, and_false, iff_false]
      omega
set_option maxHeartbeats 4000000 in
theorem rright_any (p x0 x1 x2 x3 x4 x5 x6 x7 x8 x9 x10 : Int) (w : World) : Calls Tryd.prog 72 #[.int .i64 p, .agg #[.int .i64 x0, .int .i64 x1, .int .i64 x2, .int .i64 x3, .int .i64 x4, .int .i64 x5, .int .i64 x6, .int .i64 x7, .int .i64 x8, .int .i64 x9, .int .i64 x10]] w fun e w' => e = .returned (.bool (rightB p x0 x1 x2 x3 x4 x5 x6 x7 x8 x9 x10)) ∧ Below w.heap.size w w' := by
  rw [← rrB_is]
  unfold rrB
  cases h0 : (btw x0 0 1)
  · simp only [h0, Bool.not_true, Bool.not_false, Bool.true_and, Bool.false_and, Bool.and_true, Bool.and_false, Bool.true_or, Bool.false_or, Bool.or_true, Bool.or_false, if_true, if_false, Bool.false_eq_true, reduceIte]
    go_enter Tryd.func72, Tryd.ntmps72
    go_wp2_with (first | (go_at_call 71; refine (rin_any _ _ _ _).mono ?_; rintro e w' ⟨rfl, rfl⟩))
    go_ret
    exact ⟨by first | rfl | (simp; done), below_alloc (Below.refl _ _) _⟩
  · cases h1 : (decide (x1 < 0))
    · cases h2 : (decide (p ≤ x1))
      · cases h3 : (decide (x2 < 0))
        · cases h4 : (decide (p ≤ x2))
          · cases h5 : (x1 == x2)
            · cases h6 : (btw x3 1 4)
              · simp only [h0, h1, h2, h3, h4, h5, h6, Bool.not_true, Bool.not_false, Bool.true_and, Bool.false_and, Bool.and_true, Bool.and_false, Bool.true_or, Bool.false_or, Bool.or_true, Bool.or_false, if_true, if_false, Bool.false_eq_true, reduceIte]
                go_enter Tryd.func72, Tryd.ntmps72
                go_wp2_with (first | (go_at_call 71; refine (rin_any _ _ _ _).mono ?_; rintro e w' ⟨rfl, rfl⟩))
                go_ret
                exact ⟨by first | rfl | (simp; done), below_alloc (Below.refl _ _) _⟩
              · cases k0 : (x0 == 0)
                · cases q0 : (x4 == 0)
                  · simp only [h0, h1, h2, h3, h4, h5, h6, k0, q0, Bool.not_true, Bool.not_false, Bool.true_and, Bool.false_and, Bool.and_true, Bool.and_false, Bool.true_or, Bool.false_or, Bool.or_true, Bool.or_false, if_true, if_false, Bool.false_eq_true, reduceIte]
                    go_enter Tryd.func72, Tryd.ntmps72
                    go_wp2_with (first | (go_at_call 71; refine (rin_any _ _ _ _).mono ?_; rintro e w' ⟨rfl, rfl⟩))
                    go_ret
                    exact ⟨by first | rfl | (simp; done), below_alloc (Below.refl _ _) _⟩
                  · cases q1 : (btw x5 1 3)
                    · simp only [h0, h1, h2, h3, h4, h5, h6, k0, q0, q1, Bool.not_true, Bool.not_false, Bool.true_and, Bool.false_and, Bool.and_true, Bool.and_false, Bool.true_or, Bool.false_or, Bool.or_true, Bool.or_false, if_true, if_false, Bool.false_eq_true, reduceIte]
                      go_enter Tryd.func72, Tryd.ntmps72
                      go_wp2_with (first | (go_at_call 71; refine (rin_any _ _ _ _).mono ?_; rintro e w' ⟨rfl, rfl⟩))
                      go_ret
                      exact ⟨by first | rfl | (simp; done), below_alloc (Below.refl _ _) _⟩
                    · cases q2 : (btw x6 1 8)
                      · simp only [h0, h1, h2, h3, h4, h5, h6, k0, q0, q1, q2, Bool.not_true, Bool.not_false, Bool.true_and, Bool.false_and, Bool.and_true, Bool.and_false, Bool.true_or, Bool.false_or, Bool.or_true, Bool.or_false, if_true, if_false, Bool.false_eq_true, reduceIte]
                        go_enter Tryd.func72, Tryd.ntmps72
                        go_wp2_with (first | (go_at_call 71; refine (rin_any _ _ _ _).mono ?_; rintro e w' ⟨rfl, rfl⟩))
                        go_ret
                        exact ⟨by first | rfl | (simp; done), below_alloc (Below.refl _ _) _⟩
                      · cases q3 : (btw x7 1 8)
                        · simp only [h0, h1, h2, h3, h4, h5, h6, k0, q0, q1, q2, q3, Bool.not_true, Bool.not_false, Bool.true_and, Bool.false_and, Bool.and_true, Bool.and_false, Bool.true_or, Bool.false_or, Bool.or_true, Bool.or_false, if_true, if_false, Bool.false_eq_true, reduceIte]
                          go_enter Tryd.func72, Tryd.ntmps72
                          go_wp2_with (first | (go_at_call 71; refine (rin_any _ _ _ _).mono ?_; rintro e w' ⟨rfl, rfl⟩))
                          go_ret
                          exact ⟨by first | rfl | (simp; done), below_alloc (Below.refl _ _) _⟩
                        · cases q4 : (btw x8 1 65536)
                          · simp only [h0, h1, h2, h3, h4, h5, h6, k0, q0, q1, q2, q3, q4, Bool.not_true, Bool.not_false, Bool.true_and, Bool.false_and, Bool.and_true, Bool.and_false, Bool.true_or, Bool.false_or, Bool.or_true, Bool.or_false, if_true, if_false, Bool.false_eq_true, reduceIte]
                            go_enter Tryd.func72, Tryd.ntmps72
                            go_wp2_with (first | (go_at_call 71; refine (rin_any _ _ _ _).mono ?_; rintro e w' ⟨rfl, rfl⟩))
                            go_ret
                            exact ⟨by first | rfl | (simp; done), below_alloc (Below.refl _ _) _⟩
                          · cases q5 : (btw x9 0 64)
                            · simp only [h0, h1, h2, h3, h4, h5, h6, k0, q0, q1, q2, q3, q4, q5, Bool.not_true, Bool.not_false, Bool.true_and, Bool.false_and, Bool.and_true, Bool.and_false, Bool.true_or, Bool.false_or, Bool.or_true, Bool.or_false, if_true, if_false, Bool.false_eq_true, reduceIte]
                              go_enter Tryd.func72, Tryd.ntmps72
                              go_wp2_with (first | (go_at_call 71; refine (rin_any _ _ _ _).mono ?_; rintro e w' ⟨rfl, rfl⟩))
                              go_ret
                              exact ⟨by first | rfl | (simp; done), below_alloc (Below.refl _ _) _⟩
                            · simp only [h0, h1, h2, h3, h4, h5, h6, k0, q0, q1, q2, q3, q4, q5, Bool.not_true, Bool.not_false, Bool.true_and, Bool.false_and, Bool.and_true, Bool.and_false, Bool.true_or, Bool.false_or, Bool.or_true, Bool.or_false, if_true, if_false, Bool.false_eq_true, reduceIte]
                              go_enter Tryd.func72, Tryd.ntmps72
                              go_wp2_with (first | (go_at_call 71; refine (rin_any _ _ _ _).mono ?_; rintro e w' ⟨rfl, rfl⟩))
                              go_ret
                              exact ⟨by first | rfl | (simp; done), below_alloc (Below.refl _ _) _⟩
                · cases s0 : (btw x4 1 65536)
                  · simp only [h0, h1, h2, h3, h4, h5, h6, k0, s0, Bool.not_true, Bool.not_false, Bool.true_and, Bool.false_and, Bool.and_true, Bool.and_false, Bool.true_or, Bool.false_or, Bool.or_true, Bool.or_false, if_true, if_false, Bool.false_eq_true, reduceIte]
                    go_enter Tryd.func72, Tryd.ntmps72
                    go_wp2_with (first | (go_at_call 71; refine (rin_any _ _ _ _).mono ?_; rintro e w' ⟨rfl, rfl⟩))
                    go_ret
                    exact ⟨by first | rfl | (simp; done), below_alloc (Below.refl _ _) _⟩
                  · cases s1 : (x5 == 0)
                    · simp only [h0, h1, h2, h3, h4, h5, h6, k0, s0, s1, Bool.not_true, Bool.not_false, Bool.true_and, Bool.false_and, Bool.and_true, Bool.and_false, Bool.true_or, Bool.false_or, Bool.or_true, Bool.or_false, if_true, if_false, Bool.false_eq_true, reduceIte]
                      go_enter Tryd.func72, Tryd.ntmps72
                      go_wp2_with (first | (go_at_call 71; refine (rin_any _ _ _ _).mono ?_; rintro e w' ⟨rfl, rfl⟩))
                      go_ret
                      exact ⟨by first | rfl | (simp; done), below_alloc (Below.refl _ _) _⟩
                    · cases s2 : (x6 == 0)
                      · simp only [h0, h1, h2, h3, h4, h5, h6, k0, s0, s1, s2, Bool.not_true, Bool.not_false, Bool.true_and, Bool.false_and, Bool.and_true, Bool.and_false, Bool.true_or, Bool.false_or, Bool.or_true, Bool.or_false, if_true, if_false, Bool.false_eq_true, reduceIte]
                        go_enter Tryd.func72, Tryd.ntmps72
                        go_wp2_with (first | (go_at_call 71; refine (rin_any _ _ _ _).mono ?_; rintro e w' ⟨rfl, rfl⟩))
                        go_ret
                        exact ⟨by first | rfl | (simp; done), below_alloc (Below.refl _ _) _⟩
                      · cases s3 : (x7 == 0)
                        · simp only [h0, h1, h2, h3, h4, h5, h6, k0, s0, s1, s2, s3, Bool.not_true, Bool.not_false, Bool.true_and, Bool.false_and, Bool.and_true, Bool.and_false, Bool.true_or, Bool.false_or, Bool.or_true, Bool.or_false, if_true, if_false, Bool.false_eq_true, reduceIte]
                          go_enter Tryd.func72, Tryd.ntmps72
                          go_wp2_with (first | (go_at_call 71; refine (rin_any _ _ _ _).mono ?_; rintro e w' ⟨rfl, rfl⟩))
                          go_ret
                          exact ⟨by first | rfl | (simp; done), below_alloc (Below.refl _ _) _⟩
                        · cases s4 : (x8 == 0)
                          · simp only [h0, h1, h2, h3, h4, h5, h6, k0, s0, s1, s2, s3, s4, Bool.not_true, Bool.not_false, Bool.true_and, Bool.false_and, Bool.and_true, Bool.and_false, Bool.true_or, Bool.false_or, Bool.or_true, Bool.or_false, if_true, if_false, Bool.false_eq_true, reduceIte]
                            go_enter Tryd.func72, Tryd.ntmps72
                            go_wp2_with (first | (go_at_call 71; refine (rin_any _ _ _ _).mono ?_; rintro e w' ⟨rfl, rfl⟩))
                            go_ret
                            exact ⟨by first | rfl | (simp; done), below_alloc (Below.refl _ _) _⟩
                          · cases s5 : (x9 == 0)
                            · simp only [h0, h1, h2, h3, h4, h5, h6, k0, s0, s1, s2, s3, s4, s5, Bool.not_true, Bool.not_false, Bool.true_and, Bool.false_and, Bool.and_true, Bool.and_false, Bool.true_or, Bool.false_or, Bool.or_true, Bool.or_false, if_true, if_false, Bool.false_eq_true, reduceIte]
                              go_enter Tryd.func72, Tryd.ntmps72
                              go_wp2_with (first | (go_at_call 71; refine (rin_any _ _ _ _).mono ?_; rintro e w' ⟨rfl, rfl⟩))
                              go_ret
                              exact ⟨by first | rfl | (simp; done), below_alloc (Below.refl _ _) _⟩
                            · simp only [h0, h1, h2, h3, h4, h5, h6, k0, s0, s1, s2, s3, s4, s5, Bool.not_true, Bool.not_false, Bool.true_and, Bool.false_and, Bool.and_true, Bool.and_false, Bool.true_or, Bool.false_or, Bool.or_true, Bool.or_false, if_true, if_false, Bool.false_eq_true, reduceIte]
                              go_enter Tryd.func72, Tryd.ntmps72
                              go_wp2_with (first | (go_at_call 71; refine (rin_any _ _ _ _).mono ?_; rintro e w' ⟨rfl, rfl⟩))
                              go_ret
                              exact ⟨by first | rfl | (simp; done), below_alloc (Below.refl _ _) _⟩
            · simp only [h0, h1, h2, h3, h4, h5, Bool.not_true, Bool.not_false, Bool.true_and, Bool.false_and, Bool.and_true, Bool.and_false, Bool.true_or, Bool.false_or, Bool.or_true, Bool.or_false, if_true, if_false, Bool.false_eq_true, reduceIte]
              go_enter Tryd.func72, Tryd.ntmps72
              go_wp2_with (first | (go_at_call 71; refine (rin_any _ _ _ _).mono ?_; rintro e w' ⟨rfl, rfl⟩))
              go_ret
              exact ⟨by first | rfl | (simp; done), below_alloc (Below.refl _ _) _⟩
          · simp only [h0, h1, h2, h3, h4, Bool.not_true, Bool.not_false, Bool.true_and, Bool.false_and, Bool.and_true, Bool.and_false, Bool.true_or, Bool.false_or, Bool.or_true, Bool.or_false, if_true, if_false, Bool.false_eq_true, reduceIte]
            go_enter Tryd.func72, Tryd.ntmps72
            go_wp2_with (first | (go_at_call 71; refine (rin_any _ _ _ _).mono ?_; rintro e w' ⟨rfl, rfl⟩))
            go_ret
            exact ⟨by first | rfl | (simp; done), below_alloc (Below.refl _ _) _⟩
        · simp only [h0, h1, h2, h3, Bool.not_true, Bool.not_false, Bool.true_and, Bool.false_and, Bool.and_true, Bool.and_false, Bool.true_or, Bool.false_or, Bool.or_true, Bool.or_false, if_true, if_false, Bool.false_eq_true, reduceIte]
          go_enter Tryd.func72, Tryd.ntmps72
          go_wp2_with (first | (go_at_call 71; refine (rin_any _ _ _ _).mono ?_; rintro e w' ⟨rfl, rfl⟩))
          go_ret
          exact ⟨by first | rfl | (simp; done), below_alloc (Below.refl _ _) _⟩
      · simp only [h0, h1, h2, Bool.not_true, Bool.not_false, Bool.true_and, Bool.false_and, Bool.and_true, Bool.and_false, Bool.true_or, Bool.false_or, Bool.or_true, Bool.or_false, if_true, if_false, Bool.false_eq_true, reduceIte]
        go_enter Tryd.func72, Tryd.ntmps72
        go_wp2_with (first | (go_at_call 71; refine (rin_any _ _ _ _).mono ?_; rintro e w' ⟨rfl, rfl⟩))
        go_ret
        exact ⟨by first | rfl | (simp; done), below_alloc (Below.refl _ _) _⟩
    · simp only [h0, h1, Bool.not_true, Bool.not_false, Bool.true_and, Bool.false_and, Bool.and_true, Bool.and_false, Bool.true_or, Bool.false_or, Bool.or_true, Bool.or_false, if_true, if_false, Bool.false_eq_true, reduceIte]
      go_enter Tryd.func72, Tryd.ntmps72
      go_wp2_with (first | (go_at_call 71; refine (rin_any _ _ _ _).mono ?_; rintro e w' ⟨rfl, rfl⟩))
      go_ret
      exact ⟨by first | rfl | (simp; done), below_alloc (Below.refl _ _) _⟩
end Go.Proofs.YtdebbanloopcgaaDoor.Cz
