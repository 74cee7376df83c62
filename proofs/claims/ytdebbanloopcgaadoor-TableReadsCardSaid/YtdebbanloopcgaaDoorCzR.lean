/- Layer 4 (config): Right, by eleven numbers. -/
import Derived.Test.YtdebbanloopcgaaDoorCz
set_option linter.unusedVariables false
set_option linter.unusedSimpArgs false
namespace Go.Proofs.YtdebbanloopcgaaDoor.Cz
open Go.RowKit Go.Proofs.YtdebbanloopcgaaDoorW.PrintWords Go.Proofs.YtdebbanloopcgaaDoorW.PrintLast Go.Proofs.YtdebbanloopcgaaDoorW.PrintMore
attribute [local go_sem] max2_int min2_int max_two min_two max_three min_three max_four min_four Tryd.underlying26 Tryd.underlying57
def rightB (p x0 x1 x2 x3 x4 x5 x6 x7 x8 x9 x10 : Int) : Bool :=
  !decide ((if x2 < x1 then x2 else x1) < 0) && (!decide (p ≤ (if x1 < x2 then x2 else x1)) && (!(x1 == x2) && (btw x3 1 4 &&
  (if (x0 == 1) = true then !(x4 != 0) && (btw x5 1 3 && (btw x6 1 8 && (btw x7 1 8 && (btw x8 1 65536 && (btw x9 0 64 && btw x10 1 64)))))
   else if (x0 == 0) = true then btw x4 1 65536 && (x5 == 0 && (x6 == 0 && (x7 == 0 && (x8 == 0 && (x9 == 0 && x10 == 0)))))
   else false))))
set_option maxHeartbeats 4000000 in
theorem right_any {p f : Int} {v2 v3 v4 : Value} (x0 x1 x2 x3 x4 x5 x6 x7 x8 x9 x10 : Int) (w : World) :
    Calls Tryd.prog 64 #[.agg #[.int .i64 p, .int .i64 f, v2, v3, v4], .agg #[.int .i64 x0, .int .i64 x1, .int .i64 x2, .int .i64 x3, .int .i64 x4, .int .i64 x5, .int .i64 x6, .int .i64 x7, .int .i64 x8, .int .i64 x9, .int .i64 x10]] w fun e w' => e = .returned (.bool (rightB p x0 x1 x2 x3 x4 x5 x6 x7 x8 x9 x10)) ∧ Below w.heap.size w w' := by
  unfold rightB
  obtain ⟨mn, hmn⟩ : ∃ mn, (if x2 < x1 then x2 else x1) = mn := ⟨_, rfl⟩
  obtain ⟨mx, hmx⟩ : ∃ mx, (if x1 < x2 then x2 else x1) = mx := ⟨_, rfl⟩
  rw [hmn, hmx]
  have hb1 : btw 1 1 65536 = true := rfl

  cases h1 : (decide (mn < 0))
  · cases h2 : (decide (p ≤ mx))
    · cases h3 : (x1 == x2)
      · cases h4 : (btw x3 1 4)
        · simp only [h1, h2, h3, h4, Bool.not_true, Bool.not_false, Bool.true_and, Bool.false_and, Bool.and_true, Bool.and_false, if_true, if_false, Bool.false_eq_true, reduceIte]
          go_enter Tryd.func64, Tryd.ntmps64
          go_wp2_with (first | (go_at_call 60; refine (between_any _ _ _ _).mono ?_; rintro e w' ⟨rfl, rfl⟩))
          go_ret
          refine ⟨by first | rfl | (simp; done), ?_⟩
          repeat (first | exact Below.refl _ _ | apply below_alloc | refine below_set ?_ (by simp))
        · cases k1 : (x0 == 1)
          · cases k0 : (x0 == 0)
            · simp only [h1, h2, h3, h4, k1, k0, Bool.not_true, Bool.not_false, Bool.true_and, Bool.false_and, Bool.and_true, Bool.and_false, if_true, if_false, Bool.false_eq_true, reduceIte]
              go_enter Tryd.func64, Tryd.ntmps64
              go_wp2_with (first | (go_at_call 60; refine (between_any _ _ _ _).mono ?_; rintro e w' ⟨rfl, rfl⟩))
              go_ret
              refine ⟨by first | rfl | (simp; done), ?_⟩
              repeat (first | exact Below.refl _ _ | apply below_alloc | refine below_set ?_ (by simp))
            · cases s1 : (btw x4 1 65536)
              · simp only [h1, h2, h3, h4, k1, k0, s1, Bool.not_true, Bool.not_false, Bool.true_and, Bool.false_and, Bool.and_true, Bool.and_false, if_true, if_false, Bool.false_eq_true, reduceIte]
                go_enter Tryd.func64, Tryd.ntmps64
                go_wp2_with (first | (go_at_call 60; refine (between_any _ _ _ _).mono ?_; rintro e w' ⟨rfl, rfl⟩))
                go_ret
                refine ⟨by first | rfl | (simp; done), ?_⟩
                repeat (first | exact Below.refl _ _ | apply below_alloc | refine below_set ?_ (by simp))
              · by_cases z5 : x5 = 0
                · obtain rfl := z5
                  by_cases z6 : x6 = 0
                  · obtain rfl := z6
                    by_cases z7 : x7 = 0
                    · obtain rfl := z7
                      by_cases z8 : x8 = 0
                      · obtain rfl := z8
                        by_cases z9 : x9 = 0
                        · obtain rfl := z9
                          by_cases z10 : x10 = 0
                          · obtain rfl := z10
                            simp only [h1, h2, h3, h4, k1, k0, s1, beq_self_eq_true, Bool.not_true, Bool.not_false, Bool.true_and, Bool.false_and, Bool.and_true, Bool.and_false, if_true, if_false, Bool.false_eq_true, reduceIte]
                            go_enter Tryd.func64, Tryd.ntmps64
                            go_wp2_with (first | (go_at_call 60; refine (between_any _ _ _ _).mono ?_; rintro e w' ⟨rfl, rfl⟩))
                            go_ret
                            refine ⟨by first | rfl | (simp; done), ?_⟩
                            repeat (first | exact Below.refl _ _ | apply below_alloc | refine below_set ?_ (by simp))
                          · have y10 : (x10 == 0) = false := beq_eq_false_iff_ne.mpr z10
                            simp only [h1, h2, h3, h4, k1, k0, s1, y10, beq_self_eq_true, Bool.not_true, Bool.not_false, Bool.true_and, Bool.false_and, Bool.and_true, Bool.and_false, if_true, if_false, Bool.false_eq_true, reduceIte]
                            go_enter Tryd.func64, Tryd.ntmps64
                            go_wp2_with (first | (go_at_call 60; refine (between_any _ _ _ _).mono ?_; rintro e w' ⟨rfl, rfl⟩))
                            go_ret
                            refine ⟨by first | rfl | (simp; done), ?_⟩
                            repeat (first | exact Below.refl _ _ | apply below_alloc | refine below_set ?_ (by simp))
                        · have y9 : (x9 == 0) = false := beq_eq_false_iff_ne.mpr z9
                          simp only [h1, h2, h3, h4, k1, k0, s1, y9, beq_self_eq_true, Bool.not_true, Bool.not_false, Bool.true_and, Bool.false_and, Bool.and_true, Bool.and_false, if_true, if_false, Bool.false_eq_true, reduceIte]
                          go_enter Tryd.func64, Tryd.ntmps64
                          go_wp2_with (first | (go_at_call 60; refine (between_any _ _ _ _).mono ?_; rintro e w' ⟨rfl, rfl⟩))
                          go_ret
                          refine ⟨by first | rfl | (simp; done), ?_⟩
                          repeat (first | exact Below.refl _ _ | apply below_alloc | refine below_set ?_ (by simp))
                      · have y8 : (x8 == 0) = false := beq_eq_false_iff_ne.mpr z8
                        simp only [h1, h2, h3, h4, k1, k0, s1, y8, beq_self_eq_true, Bool.not_true, Bool.not_false, Bool.true_and, Bool.false_and, Bool.and_true, Bool.and_false, if_true, if_false, Bool.false_eq_true, reduceIte]
                        go_enter Tryd.func64, Tryd.ntmps64
                        go_wp2_with (first | (go_at_call 60; refine (between_any _ _ _ _).mono ?_; rintro e w' ⟨rfl, rfl⟩))
                        go_ret
                        refine ⟨by first | rfl | (simp; done), ?_⟩
                        repeat (first | exact Below.refl _ _ | apply below_alloc | refine below_set ?_ (by simp))
                    · have y7 : (x7 == 0) = false := beq_eq_false_iff_ne.mpr z7
                      simp only [h1, h2, h3, h4, k1, k0, s1, y7, beq_self_eq_true, Bool.not_true, Bool.not_false, Bool.true_and, Bool.false_and, Bool.and_true, Bool.and_false, if_true, if_false, Bool.false_eq_true, reduceIte]
                      go_enter Tryd.func64, Tryd.ntmps64
                      go_wp2_with (first | (go_at_call 60; refine (between_any _ _ _ _).mono ?_; rintro e w' ⟨rfl, rfl⟩))
                      go_ret
                      refine ⟨by first | rfl | (simp; done), ?_⟩
                      repeat (first | exact Below.refl _ _ | apply below_alloc | refine below_set ?_ (by simp))
                  · have y6 : (x6 == 0) = false := beq_eq_false_iff_ne.mpr z6
                    simp only [h1, h2, h3, h4, k1, k0, s1, y6, beq_self_eq_true, Bool.not_true, Bool.not_false, Bool.true_and, Bool.false_and, Bool.and_true, Bool.and_false, if_true, if_false, Bool.false_eq_true, reduceIte]
                    go_enter Tryd.func64, Tryd.ntmps64
                    go_wp2_with (first | (go_at_call 60; refine (between_any _ _ _ _).mono ?_; rintro e w' ⟨rfl, rfl⟩))
                    go_ret
                    refine ⟨by first | rfl | (simp; done), ?_⟩
                    repeat (first | exact Below.refl _ _ | apply below_alloc | refine below_set ?_ (by simp))
                · have y5 : (x5 == 0) = false := beq_eq_false_iff_ne.mpr z5
                  simp only [h1, h2, h3, h4, k1, k0, s1, y5, beq_self_eq_true, Bool.not_true, Bool.not_false, Bool.true_and, Bool.false_and, Bool.and_true, Bool.and_false, if_true, if_false, Bool.false_eq_true, reduceIte]
                  go_enter Tryd.func64, Tryd.ntmps64
                  go_wp2_with (first | (go_at_call 60; refine (between_any _ _ _ _).mono ?_; rintro e w' ⟨rfl, rfl⟩))
                  go_ret
                  refine ⟨by first | rfl | (simp; done), ?_⟩
                  repeat (first | exact Below.refl _ _ | apply below_alloc | refine below_set ?_ (by simp))
          · cases q1 : (x4 != 0)
            · cases q2 : (btw x5 1 3)
              · simp only [h1, h2, h3, h4, k1, q1, q2, Bool.not_true, Bool.not_false, Bool.true_and, Bool.false_and, Bool.and_true, Bool.and_false, if_true, if_false, Bool.false_eq_true, reduceIte]
                go_enter Tryd.func64, Tryd.ntmps64
                go_wp2_with (first | (go_at_call 60; refine (between_any _ _ _ _).mono ?_; rintro e w' ⟨rfl, rfl⟩))
                go_ret
                refine ⟨by first | rfl | (simp; done), ?_⟩
                repeat (first | exact Below.refl _ _ | apply below_alloc | refine below_set ?_ (by simp))
              · cases q3 : (btw x6 1 8)
                · simp only [h1, h2, h3, h4, k1, q1, q2, q3, Bool.not_true, Bool.not_false, Bool.true_and, Bool.false_and, Bool.and_true, Bool.and_false, if_true, if_false, Bool.false_eq_true, reduceIte]
                  go_enter Tryd.func64, Tryd.ntmps64
                  go_wp2_with (first | (go_at_call 60; refine (between_any _ _ _ _).mono ?_; rintro e w' ⟨rfl, rfl⟩))
                  go_ret
                  refine ⟨by first | rfl | (simp; done), ?_⟩
                  repeat (first | exact Below.refl _ _ | apply below_alloc | refine below_set ?_ (by simp))
                · cases q4 : (btw x7 1 8)
                  · simp only [h1, h2, h3, h4, k1, q1, q2, q3, q4, Bool.not_true, Bool.not_false, Bool.true_and, Bool.false_and, Bool.and_true, Bool.and_false, if_true, if_false, Bool.false_eq_true, reduceIte]
                    go_enter Tryd.func64, Tryd.ntmps64
                    go_wp2_with (first | (go_at_call 60; refine (between_any _ _ _ _).mono ?_; rintro e w' ⟨rfl, rfl⟩))
                    go_ret
                    refine ⟨by first | rfl | (simp; done), ?_⟩
                    repeat (first | exact Below.refl _ _ | apply below_alloc | refine below_set ?_ (by simp))
                  · cases q5 : (btw x8 1 65536)
                    · simp only [h1, h2, h3, h4, k1, q1, q2, q3, q4, q5, Bool.not_true, Bool.not_false, Bool.true_and, Bool.false_and, Bool.and_true, Bool.and_false, if_true, if_false, Bool.false_eq_true, reduceIte]
                      go_enter Tryd.func64, Tryd.ntmps64
                      go_wp2_with (first | (go_at_call 60; refine (between_any _ _ _ _).mono ?_; rintro e w' ⟨rfl, rfl⟩))
                      go_ret
                      refine ⟨by first | rfl | (simp; done), ?_⟩
                      repeat (first | exact Below.refl _ _ | apply below_alloc | refine below_set ?_ (by simp))
                    · cases q6 : (btw x9 0 64)
                      · simp only [h1, h2, h3, h4, k1, q1, q2, q3, q4, q5, q6, Bool.not_true, Bool.not_false, Bool.true_and, Bool.false_and, Bool.and_true, Bool.and_false, if_true, if_false, Bool.false_eq_true, reduceIte]
                        go_enter Tryd.func64, Tryd.ntmps64
                        go_wp2_with (first | (go_at_call 60; refine (between_any _ _ _ _).mono ?_; rintro e w' ⟨rfl, rfl⟩))
                        go_ret
                        refine ⟨by first | rfl | (simp; done), ?_⟩
                        repeat (first | exact Below.refl _ _ | apply below_alloc | refine below_set ?_ (by simp))
                      · cases q7 : (btw x10 1 64)
                        · simp only [h1, h2, h3, h4, k1, q1, q2, q3, q4, q5, q6, q7, Bool.not_true, Bool.not_false, Bool.true_and, Bool.false_and, Bool.and_true, Bool.and_false, if_true, if_false, Bool.false_eq_true, reduceIte]
                          go_enter Tryd.func64, Tryd.ntmps64
                          go_wp2_with (first | (go_at_call 60; refine (between_any _ _ _ _).mono ?_; rintro e w' ⟨rfl, rfl⟩))
                          go_ret
                          refine ⟨by first | rfl | (simp; done), ?_⟩
                          repeat (first | exact Below.refl _ _ | apply below_alloc | refine below_set ?_ (by simp))
                        · simp only [h1, h2, h3, h4, k1, q1, q2, q3, q4, q5, q6, q7, Bool.not_true, Bool.not_false, Bool.true_and, Bool.false_and, Bool.and_true, Bool.and_false, if_true, if_false, Bool.false_eq_true, reduceIte]
                          go_enter Tryd.func64, Tryd.ntmps64
                          go_wp2_with (first | (go_at_call 60; refine (between_any _ _ _ _).mono ?_; rintro e w' ⟨rfl, rfl⟩))
                          go_ret
                          refine ⟨by first | rfl | (simp; done), ?_⟩
                          repeat (first | exact Below.refl _ _ | apply below_alloc | refine below_set ?_ (by simp))
            · simp only [h1, h2, h3, h4, k1, q1, Bool.not_true, Bool.not_false, Bool.true_and, Bool.false_and, Bool.and_true, Bool.and_false, if_true, if_false, Bool.false_eq_true, reduceIte]
              go_enter Tryd.func64, Tryd.ntmps64
              go_wp2_with (first | (go_at_call 60; refine (between_any _ _ _ _).mono ?_; rintro e w' ⟨rfl, rfl⟩))
              go_ret
              refine ⟨by first | rfl | (simp; done), ?_⟩
              repeat (first | exact Below.refl _ _ | apply below_alloc | refine below_set ?_ (by simp))
      · simp only [h1, h2, h3, Bool.not_true, Bool.not_false, Bool.true_and, Bool.false_and, Bool.and_true, Bool.and_false, if_true, if_false, Bool.false_eq_true, reduceIte]
        go_enter Tryd.func64, Tryd.ntmps64
        go_wp2_with (first | (go_at_call 60; refine (between_any _ _ _ _).mono ?_; rintro e w' ⟨rfl, rfl⟩))
        go_ret
        refine ⟨by first | rfl | (simp; done), ?_⟩
        repeat (first | exact Below.refl _ _ | apply below_alloc | refine below_set ?_ (by simp))
    · simp only [h1, h2, Bool.not_true, Bool.not_false, Bool.true_and, Bool.false_and, Bool.and_true, Bool.and_false, if_true, if_false, Bool.false_eq_true, reduceIte]
      go_enter Tryd.func64, Tryd.ntmps64
      go_wp2_with (first | (go_at_call 60; refine (between_any _ _ _ _).mono ?_; rintro e w' ⟨rfl, rfl⟩))
      go_ret
      refine ⟨by first | rfl | (simp; done), ?_⟩
      repeat (first | exact Below.refl _ _ | apply below_alloc | refine below_set ?_ (by simp))
  · simp only [h1, Bool.not_true, Bool.not_false, Bool.true_and, Bool.false_and, Bool.and_true, Bool.and_false, if_true, if_false, Bool.false_eq_true, reduceIte]
    go_enter Tryd.func64, Tryd.ntmps64
    go_wp2_with (first | (go_at_call 60; refine (between_any _ _ _ _).mono ?_; rintro e w' ⟨rfl, rfl⟩))
    go_ret
    refine ⟨by first | rfl | (simp; done), ?_⟩
    repeat (first | exact Below.refl _ _ | apply below_alloc | refine below_set ?_ (by simp))
theorem rtest_any {p f : Int} {v2 v3 v4 : Value} {g : Nat} (x0 x1 x2 x3 x4 x5 x6 x7 x8 x9 x10 : Int) {w : World} (hg : w.heap[g]? = some (.cells #[.int .i64 p, .int .i64 f, v2, v3, v4] 26 (0, 0))) :
    Calls Tryd.prog 63 #[.agg #[.int .i64 x0, .int .i64 x1, .int .i64 x2, .int .i64 x3, .int .i64 x4, .int .i64 x5, .int .i64 x6, .int .i64 x7, .int .i64 x8, .int .i64 x9, .int .i64 x10], .pointer (some ⟨g, 0, none⟩)] w fun e w' => e = .returned (.bool (!rightB p x0 x1 x2 x3 x4 x5 x6 x7 x8 x9 x10)) ∧ Below w.heap.size w w' := by
  have hne : g ≠ w.heap.size := by have := blk_lt hg; omega
  have hg2 := blk_alloc hg (.cells #[.int .i64 x0, .int .i64 x1, .int .i64 x2, .int .i64 x3, .int .i64 x4, .int .i64 x5, .int .i64 x6, .int .i64 x7, .int .i64 x8, .int .i64 x9, .int .i64 x10] 57)
  have c0 := (blk_cell hg2 0).trans rfl
  have c1 := (blk_cell hg2 1).trans rfl
  have c2 := (blk_cell hg2 2).trans rfl
  have c3 := (blk_cell hg2 3).trans rfl
  have c4 := (blk_cell hg2 4).trans rfl
  clear hg hg2
  go_enter Tryd.func63, Tryd.ntmps63
  go_wp2_with (first | (go_at_call 64; refine (right_any _ _ _ _ _ _ _ _ _ _ _ _).mono ?_; rintro e w' ⟨rfl, hb⟩))
  go_ret
  exact ⟨rfl, below_step (below_alloc (Below.refl _ _) _) hb⟩
end Go.Proofs.YtdebbanloopcgaaDoor.Cz
