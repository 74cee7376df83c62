-- The printed text of near, channel (law ConfigPaths), laid here by wip/goodfix.py.
import Derived.Test.YtehcgojcmcahnaaDoorPConfigPathsx0
namespace Go.Proofs.YtehcgojcmcahnaaDoor.PConfigPaths
open Go.RowKit Go.Proofs.YtehcgojcmcahnaaDoorW.PrintWords Go.Proofs.YtehcgojcmcahnaaDoorW.PrintLast Go.Proofs.YtehcgojcmcahnaaDoorW.PrintMore
attribute [local go_sem] max2_int min2_int max_two min_two max_three min_three max_four min_four   -- for this text's walks alone
set_option linter.unusedVariables false
set_option linter.unusedSimpArgs false

/-! ### empennageref04_near: function 23 -/
def empennageref04_near.f (a0 : Int) (a1 : Int) (a2 : Int) : Option (Int) := if (IntKind.u64.wrap (a2)) = 0 then (none) else (some (wrap64 (a1 + (wrap64 (Int.tmod (IntKind.u64.wrap (a0)) (IntKind.u64.wrap (a2)))))))
set_option maxHeartbeats 8000000 in
set_option maxRecDepth 100000 in
theorem empennageref04_near.calls (a0 : Int) (a1 : Int) (a2 : Int) (r : Int) (w : World) (h : empennageref04_near.f a0 a1 a2 = some r) :
    Calls Tryd.prog 23 #[.int .i64 a0, .int .i64 a1, .int .i64 a2] w fun e w' => e = .returned (.int .i64 r) ∧ Drawn0 w w' := by
  have H : (if (IntKind.u64.wrap (a2)) = 0 then (none) else (some (wrap64 (a1 + (wrap64 (Int.tmod (IntKind.u64.wrap (a0)) (IntKind.u64.wrap (a2)))))))) = some r := h
  clear h
  by_cases c4 : (IntKind.u64.wrap (a2)) = 0
  · rw [if_pos c4] at H
    exact absurd H (by simp)
  · rw [if_neg c4] at H
    have c4b0 : ((IntKind.u64.wrap (a2)) == 0) = false := beq_eq_false_iff_ne.mpr c4
    have c4b1 : ((IntKind.u64.wrap (a2)) != 0) = true := bne_iff_ne.mpr c4
    obtain rfl := Option.some.inj H
    go_enter Tryd.func23, Tryd.ntmps23
    go_wp2
    go_ret
    exact ⟨by first | rfl | (simp; done) | (simp [*]; done), by repeat (first | exact Drawn0.refl _ | apply Drawn0.step)⟩
/-! ### empennageref04_channel: function 24 -/
def empennageref04_channel.f (a0_0 : Int) (a0_1 : Int) (a0_2 : Int) (a0_3 : Int) (a0_4 : Int) (a0_5 : Int) (a0_6 : Int) (a0_7 : Int) (a0_8 : Int) (a0_9 : Int) (a0_10 : Int) (a1 : Int) : Option (Int × Int × Int × Int × Int × Int × Int × Int × Int × Int × Int) := (empennageref04_near.f a0_0 0 2).bind fun t132 => ((empennageref04_near.f a0_1 0 a1).bind fun t133 => ((empennageref04_near.f a0_3 1 4).bind fun t134 => ((empennageref04_near.f a0_2 1 (wrap64 (a1 - 1))).bind fun t136 => (if a1 = 0 then (none) else (if t132 = 0 then ((empennageref04_near.f a0_4 1 30).bind fun t137 => (some (t132, t133, Int.tmod (wrap64 (t133 + t136)) a1, t134, t137, 0, 0, 0, 0, 0, 0))) else ((empennageref04_near.f a0_5 1 3).bind fun t138 => ((empennageref04_near.f a0_6 1 4).bind fun t139 => ((empennageref04_near.f a0_7 1 4).bind fun t140 => ((empennageref04_near.f a0_8 1 60).bind fun t141 => ((empennageref04_near.f a0_9 0 5).bind fun t142 => ((empennageref04_near.f a0_10 1 6).bind fun t143 => (some (t132, t133, Int.tmod (wrap64 (t133 + t136)) a1, t134, 0, t138, t139, t140, t141, t142, t143)))))))))))))
def empennageref04_channel.T1 : Bool × List (List Nat × List Nat) := (true, [([], []), ([0], [0]), ([1], [1]), ([], []), ([3], [3]), ([], []), ([4, 5, 2], [4, 5]), ([], []), ([7], [7]), ([8, 6], [8]), ([2, 6, 9], [2, 6, 9]), ([], []), ([11, 10, 9, 0, 1, 2, 3, 4, 5, 6, 7, 8, 9, 10, 11], [10, 11])])
def empennageref04_channel.B1 : List Nat := [0, 1, 3, 0, 8, 0, 63, 0, 128, 511, 1023, 0, 4095]
theorem empennageref04_channel.tab1 : rtab .any (opsOf Tryd.f24 1) = empennageref04_channel.T1 := by kernel_rfl
theorem empennageref04_channel.bits1 : waitsOk empennageref04_channel.T1.2 empennageref04_channel.B1 = true := by kernel_rfl
def empennageref04_channel.T2 : Bool × List (List Nat × List Nat) := (true, [([], []), ([0], [0]), ([], []), ([2], [2]), ([], []), ([4], [4]), ([3, 5], [3, 5]), ([1, 6], [1, 6]), ([], []), ([7, 8], [7, 8]), ([0, 1, 2, 3, 4, 5, 6, 7, 8, 9], []), ([10, 9, 6, 0, 1, 2, 3, 4, 5, 6, 7, 8, 9], [9, 10])])
def empennageref04_channel.B2 : List Nat := [0, 1, 0, 4, 0, 16, 60, 127, 0, 511, 1023, 2047]
theorem empennageref04_channel.tab2 : rtab .any (opsOf Tryd.f24 2) = empennageref04_channel.T2 := by kernel_rfl
theorem empennageref04_channel.bits2 : waitsOk empennageref04_channel.T2.2 empennageref04_channel.B2 = true := by kernel_rfl
set_option maxHeartbeats 8000000 in
set_option maxRecDepth 100000 in
theorem empennageref04_channel.calls (a0_0 : Int) (a0_1 : Int) (a0_2 : Int) (a0_3 : Int) (a0_4 : Int) (a0_5 : Int) (a0_6 : Int) (a0_7 : Int) (a0_8 : Int) (a0_9 : Int) (a0_10 : Int) (a1 : Int) (r1 : Int) (r2 : Int) (r3 : Int) (r4 : Int) (r5 : Int) (r6 : Int) (r7 : Int) (r8 : Int) (r9 : Int) (r10 : Int) (r11 : Int) (w : World) (h : empennageref04_channel.f a0_0 a0_1 a0_2 a0_3 a0_4 a0_5 a0_6 a0_7 a0_8 a0_9 a0_10 a1 = some (r1, r2, r3, r4, r5, r6, r7, r8, r9, r10, r11)) :
    Calls Tryd.prog 24 #[.agg #[.int .i64 a0_0, .int .i64 a0_1, .int .i64 a0_2, .int .i64 a0_3, .int .i64 a0_4, .int .i64 a0_5, .int .i64 a0_6, .int .i64 a0_7, .int .i64 a0_8, .int .i64 a0_9, .int .i64 a0_10], .int .i64 a1] w fun e w' => e = .returned (.agg #[.int .i64 r1, .int .i64 r2, .int .i64 r3, .int .i64 r4, .int .i64 r5, .int .i64 r6, .int .i64 r7, .int .i64 r8, .int .i64 r9, .int .i64 r10, .int .i64 r11]) ∧ Below w.heap.size w w' := by
  have hu35 := Tryd.underlying35
  have HB := Aside0.mk (Below.refl w.heap.size w)
  have H : ((empennageref04_near.f a0_0 0 2).bind fun t132 => ((empennageref04_near.f a0_1 0 a1).bind fun t133 => ((empennageref04_near.f a0_3 1 4).bind fun t134 => ((empennageref04_near.f a0_2 1 (wrap64 (a1 - 1))).bind fun t136 => (if a1 = 0 then (none) else (if t132 = 0 then ((empennageref04_near.f a0_4 1 30).bind fun t137 => (some (t132, t133, Int.tmod (wrap64 (t133 + t136)) a1, t134, t137, 0, 0, 0, 0, 0, 0))) else ((empennageref04_near.f a0_5 1 3).bind fun t138 => ((empennageref04_near.f a0_6 1 4).bind fun t139 => ((empennageref04_near.f a0_7 1 4).bind fun t140 => ((empennageref04_near.f a0_8 1 60).bind fun t141 => ((empennageref04_near.f a0_9 0 5).bind fun t142 => ((empennageref04_near.f a0_10 1 6).bind fun t143 => (some (t132, t133, Int.tmod (wrap64 (t133 + t136)) a1, t134, 0, t138, t139, t140, t141, t142, t143)))))))))))))) = some (r1, r2, r3, r4, r5, r6, r7, r8, r9, r10, r11) := h
  clear h
  replace H := Option.bind_eq_some_iff.mp H
  obtain ⟨t132, A30, H⟩ := H
  replace H : ((empennageref04_near.f a0_1 0 a1).bind fun t133 => ((empennageref04_near.f a0_3 1 4).bind fun t134 => ((empennageref04_near.f a0_2 1 (wrap64 (a1 - 1))).bind fun t136 => (if a1 = 0 then (none) else (if t132 = 0 then ((empennageref04_near.f a0_4 1 30).bind fun t137 => (some (t132, t133, Int.tmod (wrap64 (t133 + t136)) a1, t134, t137, 0, 0, 0, 0, 0, 0))) else ((empennageref04_near.f a0_5 1 3).bind fun t138 => ((empennageref04_near.f a0_6 1 4).bind fun t139 => ((empennageref04_near.f a0_7 1 4).bind fun t140 => ((empennageref04_near.f a0_8 1 60).bind fun t141 => ((empennageref04_near.f a0_9 0 5).bind fun t142 => ((empennageref04_near.f a0_10 1 6).bind fun t143 => (some (t132, t133, Int.tmod (wrap64 (t133 + t136)) a1, t134, 0, t138, t139, t140, t141, t142, t143))))))))))))) = some (r1, r2, r3, r4, r5, r6, r7, r8, r9, r10, r11) := H
  have A3 := Aside0.mk A30
  clear A30
  replace H := Option.bind_eq_some_iff.mp H
  obtain ⟨t133, A40, H⟩ := H
  replace H : ((empennageref04_near.f a0_3 1 4).bind fun t134 => ((empennageref04_near.f a0_2 1 (wrap64 (a1 - 1))).bind fun t136 => (if a1 = 0 then (none) else (if t132 = 0 then ((empennageref04_near.f a0_4 1 30).bind fun t137 => (some (t132, t133, Int.tmod (wrap64 (t133 + t136)) a1, t134, t137, 0, 0, 0, 0, 0, 0))) else ((empennageref04_near.f a0_5 1 3).bind fun t138 => ((empennageref04_near.f a0_6 1 4).bind fun t139 => ((empennageref04_near.f a0_7 1 4).bind fun t140 => ((empennageref04_near.f a0_8 1 60).bind fun t141 => ((empennageref04_near.f a0_9 0 5).bind fun t142 => ((empennageref04_near.f a0_10 1 6).bind fun t143 => (some (t132, t133, Int.tmod (wrap64 (t133 + t136)) a1, t134, 0, t138, t139, t140, t141, t142, t143)))))))))))) = some (r1, r2, r3, r4, r5, r6, r7, r8, r9, r10, r11) := H
  have A4 := Aside0.mk A40
  clear A40
  replace H := Option.bind_eq_some_iff.mp H
  obtain ⟨t134, A50, H⟩ := H
  replace H : ((empennageref04_near.f a0_2 1 (wrap64 (a1 - 1))).bind fun t136 => (if a1 = 0 then (none) else (if t132 = 0 then ((empennageref04_near.f a0_4 1 30).bind fun t137 => (some (t132, t133, Int.tmod (wrap64 (t133 + t136)) a1, t134, t137, 0, 0, 0, 0, 0, 0))) else ((empennageref04_near.f a0_5 1 3).bind fun t138 => ((empennageref04_near.f a0_6 1 4).bind fun t139 => ((empennageref04_near.f a0_7 1 4).bind fun t140 => ((empennageref04_near.f a0_8 1 60).bind fun t141 => ((empennageref04_near.f a0_9 0 5).bind fun t142 => ((empennageref04_near.f a0_10 1 6).bind fun t143 => (some (t132, t133, Int.tmod (wrap64 (t133 + t136)) a1, t134, 0, t138, t139, t140, t141, t142, t143))))))))))) = some (r1, r2, r3, r4, r5, r6, r7, r8, r9, r10, r11) := H
  have A5 := Aside0.mk A50
  clear A50
  replace H := Option.bind_eq_some_iff.mp H
  obtain ⟨t136, A60, H⟩ := H
  replace H : (if a1 = 0 then (none) else (if t132 = 0 then ((empennageref04_near.f a0_4 1 30).bind fun t137 => (some (t132, t133, Int.tmod (wrap64 (t133 + t136)) a1, t134, t137, 0, 0, 0, 0, 0, 0))) else ((empennageref04_near.f a0_5 1 3).bind fun t138 => ((empennageref04_near.f a0_6 1 4).bind fun t139 => ((empennageref04_near.f a0_7 1 4).bind fun t140 => ((empennageref04_near.f a0_8 1 60).bind fun t141 => ((empennageref04_near.f a0_9 0 5).bind fun t142 => ((empennageref04_near.f a0_10 1 6).bind fun t143 => (some (t132, t133, Int.tmod (wrap64 (t133 + t136)) a1, t134, 0, t138, t139, t140, t141, t142, t143)))))))))) = some (r1, r2, r3, r4, r5, r6, r7, r8, r9, r10, r11) := H
  have A6 := Aside0.mk A60
  clear A60
  by_cases c7 : a1 = 0
  · rw [if_pos c7] at H
    exact absurd H (by simp)
  · rw [if_neg c7] at H
    have c7b0 : (a1 == 0) = false := beq_eq_false_iff_ne.mpr c7
    have c7b1 : (a1 != 0) = true := bne_iff_ne.mpr c7
    by_cases c8 : t132 = 0
    · rw [if_pos c8] at H
      have c8b0 : (t132 == 0) = true := beq_iff_eq.mpr c8
      have c8b1 : (t132 != 0) = false := bne_eq_false_iff_eq.mpr c8
      clear c8
      replace H := Option.bind_eq_some_iff.mp H
      obtain ⟨t137, A90, H⟩ := H
      replace H : (some (t132, t133, Int.tmod (wrap64 (t133 + t136)) a1, t134, t137, 0, 0, 0, 0, 0, 0)) = some (r1, r2, r3, r4, r5, r6, r7, r8, r9, r10, r11) := H
      have A9 := Aside0.mk A90
      clear A90
      simp only [Option.some.injEq, Prod.mk.injEq] at H
      obtain ⟨rfl, rfl, rfl, rfl, rfl, rfl, rfl, rfl, rfl, rfl, rfl⟩ := H
      go_enter Tryd.func24, Tryd.ntmps24
      try go_wp2_with (first | ((with_reducible refine gate_dst (N := 2) rfl ?_); refine box_event ?hg (N := 2) ?hd (cs := #[.int .i64 a0_0, .int .i64 a0_1, .int .i64 a0_2, .int .i64 a0_3, .int .i64 a0_4, .int .i64 a0_5, .int .i64 a0_6, .int .i64 a0_7, .int .i64 a0_8, .int .i64 a0_9, .int .i64 a0_10]) (t := 35) ?hr ?_; (case hd => rfl); (case hg => rfl); (case hr => first | (go_simp; done) | (go_simp; rfl)); intro gb130 hg w10 hbox hb; have n0_ := Aside0.mk (below_step (by repeat (first | (with_reducible first | exact HB.out | apply below_alloc | apply pw_below_drewN | apply below_drew1) | exact HB.out)) hb); have n1_ := Aside0.mk (hbox); have n2_ := Aside0.mk ((by rw [hg]; exact (below_size (by repeat (first | (with_reducible first | exact HB.out | apply below_alloc | apply pw_below_drewN | apply below_drew1) | exact HB.out))) : w.heap.size ≤ gb130)); have n3_ := Aside0.mk ((by rw [hg]; exact (below_size (by repeat (first | (with_reducible first | exact HB.out | apply below_alloc | apply pw_below_drewN | apply below_drew1) | exact HB.out))) : w.heap.size ≤ gb130)); clear HB; have HB := n0_; have BK130 := n1_; have GW130 := n2_; have GE130 := n3_; clear n0_ n1_ n2_ n3_; clear hb hbox hg) | ((with_reducible refine gate_dst (N := 4) rfl ?_); refine box_event ?hg (N := 4) ?hd (cs := #[.int .i64 0, .int .i64 0, .int .i64 0, .int .i64 0, .int .i64 0, .int .i64 0, .int .i64 0, .int .i64 0, .int .i64 0, .int .i64 0, .int .i64 0]) (t := 35) ?hr ?_; (case hd => rfl); (case hg => rfl); (case hr => first | (go_simp; done) | (go_simp; rfl)); intro gb131 hg w11 hbox hb; have n0_ := Aside0.mk (blk_below (g := gb130) (o := .cells #[.int .i64 a0_0, .int .i64 a0_1, .int .i64 a0_2, .int .i64 a0_3, .int .i64 a0_4, .int .i64 a0_5, .int .i64 a0_6, .int .i64 a0_7, .int .i64 a0_8, .int .i64 a0_9, .int .i64 a0_10] 35 (0, 0)) (by (with_reducible repeat (first | refine blk_drewN ?_ _ | refine blk_drew ?_ | refine blk_alloc ?_ _)); exact BK130.out) hb); have n1_ := Aside0.mk (below_step (by repeat (first | (with_reducible first | exact HB.out | apply below_alloc | apply pw_below_drewN | apply below_drew1 | refine below_set ?_ GE130.out) | exact HB.out)) hb); have n2_ := Aside0.mk (hbox); have n3_ := Aside0.mk ((by rw [hg]; exact (below_size (by repeat (first | (with_reducible first | exact HB.out | apply below_alloc | apply pw_below_drewN | apply below_drew1 | refine below_set ?_ GE130.out) | exact HB.out))) : w.heap.size ≤ gb131)); have n4_ := Aside0.mk ((by rw [hg]; exact (below_size (by repeat (first | (with_reducible first | exact HB.out | apply below_alloc | apply pw_below_drewN | apply below_drew1 | refine below_set ?_ GE130.out) | exact HB.out))) : w.heap.size ≤ gb131)); have n5_ := Aside0.mk ((by rw [hg]; exact Nat.ne_of_lt (blk_lt (g := gb130) (o := .cells #[.int .i64 a0_0, .int .i64 a0_1, .int .i64 a0_2, .int .i64 a0_3, .int .i64 a0_4, .int .i64 a0_5, .int .i64 a0_6, .int .i64 a0_7, .int .i64 a0_8, .int .i64 a0_9, .int .i64 a0_10] 35 (0, 0)) (by (with_reducible repeat (first | refine blk_drewN ?_ _ | refine blk_drew ?_ | refine blk_alloc ?_ _)); exact BK130.out)) : gb130 ≠ gb131)); have n6_ := Aside0.mk ((by rw [hg]; exact Nat.ne_of_gt (blk_lt (g := gb130) (o := .cells #[.int .i64 a0_0, .int .i64 a0_1, .int .i64 a0_2, .int .i64 a0_3, .int .i64 a0_4, .int .i64 a0_5, .int .i64 a0_6, .int .i64 a0_7, .int .i64 a0_8, .int .i64 a0_9, .int .i64 a0_10] 35 (0, 0)) (by (with_reducible repeat (first | refine blk_drewN ?_ _ | refine blk_drew ?_ | refine blk_alloc ?_ _)); exact BK130.out)) : gb131 ≠ gb130)); clear BK130; clear HB; have BK130 := n0_; have HB := n1_; have BK131 := n2_; have GW131 := n3_; have GE131 := n4_; have NB130_131 := n5_; have NB131_130 := n6_; clear n0_ n1_ n2_ n3_ n4_ n5_ n6_; clear hb hbox hg))
      have n0_ := Aside0.mk (blk_drew BK130.out)
      have n1_ := Aside0.mk (blk_drew BK131.out)
      have n2_ := Aside0.mk (below_drew1 HB.out)
      clear BK130
      clear BK131
      clear HB
      have BK130 := n0_
      have BK131 := n1_
      have HB := n2_
      clear n0_ n1_ n2_
      refine start_ (n := 13) (S := fun w' => w'.cell? ⟨gb130, 0, none⟩ = some (.int .i64 a0_0) ∧ w'.cell? ⟨gb130, 1, none⟩ = some (.int .i64 a0_1) ∧ w'.cell? ⟨gb130, 2, none⟩ = some (.int .i64 a0_2) ∧ w'.cell? ⟨gb130, 3, none⟩ = some (.int .i64 a0_3) ∧ w'.cell? ⟨gb130, 4, none⟩ = some (.int .i64 a0_4) ∧ w'.cell? ⟨gb130, 5, none⟩ = some (.int .i64 a0_5) ∧ w'.cell? ⟨gb130, 6, none⟩ = some (.int .i64 a0_6) ∧ w'.cell? ⟨gb130, 7, none⟩ = some (.int .i64 a0_7) ∧ w'.cell? ⟨gb130, 8, none⟩ = some (.int .i64 a0_8) ∧ w'.cell? ⟨gb130, 9, none⟩ = some (.int .i64 a0_9) ∧ w'.cell? ⟨gb130, 10, none⟩ = some (.int .i64 a0_10)) (ds := []) #[false, false, false, false, false, false, false, false, false, false, false, false, false] (by kernel_rfl) rfl rfl ⟨(blk_cell BK130.out 0).trans rfl, (blk_cell BK130.out 1).trans rfl, (blk_cell BK130.out 2).trans rfl, (blk_cell BK130.out 3).trans rfl, (blk_cell BK130.out 4).trans rfl, (blk_cell BK130.out 5).trans rfl, (blk_cell BK130.out 6).trans rfl, (blk_cell BK130.out 7).trans rfl, (blk_cell BK130.out 8).trans rfl, (blk_cell BK130.out 9).trans rfl, (blk_cell BK130.out 10).trans rfl⟩ (fun hHeld => ?_); refine with_tabW empennageref04_channel.tab1 empennageref04_channel.bits1 (fun HT_ HW_ => ?_)
      generalize w11.drew = w12 at BK130 BK131 HB hHeld ⊢
      refine pure_ (i := 0) (N := some 6) (v := ?_) (a' := ?_) #[true, false, false, false, false, false, false, false, false, false, false, false, false] rfl rfl (any_of HT_.out (by kernel_rfl)) (fun _ _ _ h => h) (Or.inl ⟨by rfl, ?_⟩) ?_ ?_
      rotate_left
      · intro w'
        go_simp
        with_reducible rfl
      rotate_left
      · simp only [Act.put, List.setIfInBounds_toArray, List.set_cons_zero, List.set_cons_succ, i64_w, i32_w]
        rfl
      refine pure_ (i := 3) (N := some 9) (v := ?_) (a' := ?_) #[true, false, false, true, false, false, false, false, false, false, false, false, false] rfl rfl (any_of HT_.out (by kernel_rfl)) (fun _ _ _ h => h) (Or.inl ⟨by rfl, ?_⟩) ?_ ?_
      rotate_left
      · intro w'
        go_simp
        with_reducible rfl
      rotate_left
      · simp only [Act.put, List.setIfInBounds_toArray, List.set_cons_zero, List.set_cons_succ, i64_w, i32_w]
        rfl
      refine pure_ (i := 5) (N := some 11) (v := ?_) (a' := ?_) #[true, false, false, true, false, true, false, false, false, false, false, false, false] rfl rfl (any_of HT_.out (by kernel_rfl)) (fun _ _ _ h => h) (Or.inl ⟨by rfl, ?_⟩) ?_ ?_
      rotate_left
      · intro w'
        go_simp
        with_reducible rfl
      rotate_left
      · simp only [Act.put, List.setIfInBounds_toArray, List.set_cons_zero, List.set_cons_succ, i64_w, i32_w]
        rfl
      refine pure_ (i := 7) (N := some 13) (v := ?_) (a' := ?_) #[true, false, false, true, false, true, false, true, false, false, false, false, false] rfl rfl (any_of HT_.out (by kernel_rfl)) (fun _ _ _ h => h) (Or.inl ⟨by rfl, ?_⟩) ?_ ?_
      rotate_left
      · intro w'
        go_simp
        with_reducible rfl
      rotate_left
      · simp only [Act.put, List.setIfInBounds_toArray, List.set_cons_zero, List.set_cons_succ, i64_w, i32_w]
        rfl
      refine take_ (i := 1) (N := some 7) (v := ?_) (a' := ?_) #[true, true, false, true, false, true, false, true, false, false, false, false, false] rfl rfl (take_ofW HT_.out HW_.out (by kernel_rfl)) (fun _ _ _ h => h) (Or.inl ⟨by rfl, ?_⟩) hHeld ?_ ?_
      rotate_left
      · rintro w' ⟨s0, s1, s2, s3, s4, s5, s6, s7, s8, s9, s10⟩
        go_simp
        with_reducible rfl
      rotate_left
      · simp only [Act.put, List.setIfInBounds_toArray, List.set_cons_zero, List.set_cons_succ, i64_w, i32_w]
        rfl
      refine take_ (i := 4) (N := some 10) (v := ?_) (a' := ?_) #[true, true, false, true, true, true, false, true, false, false, false, false, false] rfl rfl (take_ofW HT_.out HW_.out (by kernel_rfl)) (fun _ _ _ h => h) (Or.inl ⟨by rfl, ?_⟩) hHeld ?_ ?_
      rotate_left
      · rintro w' ⟨s0, s1, s2, s3, s4, s5, s6, s7, s8, s9, s10⟩
        go_simp
        with_reducible rfl
      rotate_left
      · simp only [Act.put, List.setIfInBounds_toArray, List.set_cons_zero, List.set_cons_succ, i64_w, i32_w]
        rfl
      refine take_ (i := 8) (N := some 14) (v := ?_) (a' := ?_) #[true, true, false, true, true, true, false, true, true, false, false, false, false] rfl rfl (take_ofW HT_.out HW_.out (by kernel_rfl)) (fun _ _ _ h => h) (Or.inl ⟨by rfl, ?_⟩) hHeld ?_ ?_
      rotate_left
      · rintro w' ⟨s0, s1, s2, s3, s4, s5, s6, s7, s8, s9, s10⟩
        go_simp
        with_reducible rfl
      rotate_left
      · simp only [Act.put, List.setIfInBounds_toArray, List.set_cons_zero, List.set_cons_succ, i64_w, i32_w]
        rfl
      refine join_ (σ := Nat) 1 #[true, true, true, true, true, true, true, true, true, true, true, true, false] (fun s_ => [(8, .int .i64 t132), (12, .int .i64 t133), (15, .int .i64 t134), (5, .pointer (some ⟨s_, 0, none⟩)), (16, .agg #[.int .i64 t132, .int .i64 t133, .int .i64 0, .int .i64 t134, .int .i64 0, .int .i64 0, .int .i64 0, .int .i64 0, .int .i64 0, .int .i64 0, .int .i64 0])]) (fun s_ w' => (w'.cell? ⟨gb130, 0, none⟩ = some (.int .i64 a0_0) ∧ w'.cell? ⟨gb130, 1, none⟩ = some (.int .i64 a0_1) ∧ w'.cell? ⟨gb130, 2, none⟩ = some (.int .i64 a0_2) ∧ w'.cell? ⟨gb130, 3, none⟩ = some (.int .i64 a0_3) ∧ w'.cell? ⟨gb130, 4, none⟩ = some (.int .i64 a0_4) ∧ w'.cell? ⟨gb130, 5, none⟩ = some (.int .i64 a0_5) ∧ w'.cell? ⟨gb130, 6, none⟩ = some (.int .i64 a0_6) ∧ w'.cell? ⟨gb130, 7, none⟩ = some (.int .i64 a0_7) ∧ w'.cell? ⟨gb130, 8, none⟩ = some (.int .i64 a0_8) ∧ w'.cell? ⟨gb130, 9, none⟩ = some (.int .i64 a0_9) ∧ w'.cell? ⟨gb130, 10, none⟩ = some (.int .i64 a0_10)) ∧ (w'.heap[gb130]? = some (.cells #[.int .i64 a0_0, .int .i64 a0_1, .int .i64 a0_2, .int .i64 a0_3, .int .i64 a0_4, .int .i64 a0_5, .int .i64 a0_6, .int .i64 a0_7, .int .i64 a0_8, .int .i64 a0_9, .int .i64 a0_10] 35 (0, 0))) ∧ (w'.heap[gb131]? = some (.cells #[.int .i64 0, .int .i64 0, .int .i64 0, .int .i64 0, .int .i64 0, .int .i64 0, .int .i64 0, .int .i64 0, .int .i64 0, .int .i64 0, .int .i64 0] 35 (0, 0))) ∧ (w'.heap[s_]? = some (.cells #[.int .i64 0, .int .i64 0, .int .i64 0, .int .i64 0, .int .i64 0, .int .i64 0, .int .i64 0, .int .i64 0, .int .i64 0, .int .i64 0, .int .i64 0] 35 (0, 0))) ∧ (w.heap.size ≤ s_) ∧ (w.heap.size ≤ s_) ∧ (gb130 ≠ s_) ∧ (s_ ≠ gb130) ∧ (gb131 ≠ s_) ∧ (s_ ≠ gb131) ∧ (Below w.heap.size w w')) ?_ ?_
      rotate_left
      · intro hCont
        refine two_ (i := 2) (j := 11) (Ni := some 8) (Nj := some 5) #[true, true, true, true, true, true, false, true, true, false, false, false, false] #[true, true, false, true, true, true, false, true, true, false, false, true, false] rfl rfl rfl rfl (two_of HT_.out (by kernel_rfl)) (by decide) (by decide) (fun K hK => ?_) (fun K hK => ?_)
        · skip
          refine goes_ Tryd.func23 (by kernel_rfl) rfl #[.int .i64 a0_0, .int .i64 0, .int .i64 2] (by rfl) rfl rfl (by (try simp only [List.map_toArray, List.map_cons, List.map_nil]); first | done | rfl | (simp only [List.length_drop, List.length_take]; rfl)) ?_
          with_reducible refine (empennageref04_near.calls a0_0 0 2 t132 _ A3.out).mono ?_
          rintro e w' ⟨rfl, ⟨nd, rfl⟩⟩
          refine ⟨_, rfl, ?_⟩
          refine hK.out _ _ ⟨(blk_cell BK130.out 0).trans rfl, (blk_cell BK130.out 1).trans rfl, (blk_cell BK130.out 2).trans rfl, (blk_cell BK130.out 3).trans rfl, (blk_cell BK130.out 4).trans rfl, (blk_cell BK130.out 5).trans rfl, (blk_cell BK130.out 6).trans rfl, (blk_cell BK130.out 7).trans rfl, (blk_cell BK130.out 8).trans rfl, (blk_cell BK130.out 9).trans rfl, (blk_cell BK130.out 10).trans rfl⟩ (fun hHeld => ?_)
          clear hK K
          refine norm_ (a' := ?_) ?_ ?_
          rotate_left
          · show Act.put _ (some 8) _ = _
            simp only [Act.put, List.setIfInBounds_toArray, List.set_cons_zero, List.set_cons_succ, i64_w, i32_w]
            rfl
          refine two_ (i := 6) (j := 11) (Ni := some 12) (Nj := some 5) #[true, true, true, true, true, true, true, true, true, false, false, false, false] #[true, true, true, true, true, true, false, true, true, false, false, true, false] rfl rfl rfl rfl (two_of HT_.out (by kernel_rfl)) (by decide) (by decide) (fun K hK => ?_) (fun K hK => ?_)
          · skip
            refine goes_ Tryd.func23 (by kernel_rfl) rfl #[.int .i64 a0_1, .int .i64 0, .int .i64 a1] (by rfl) rfl rfl (by (try simp only [List.map_toArray, List.map_cons, List.map_nil]); first | done | rfl | (simp only [List.length_drop, List.length_take]; rfl)) ?_
            with_reducible refine (empennageref04_near.calls a0_1 0 a1 t133 _ A4.out).mono ?_
            rintro e w' ⟨rfl, ⟨nd, rfl⟩⟩
            refine ⟨_, rfl, ?_⟩
            refine hK.out _ _ ⟨(blk_cell BK130.out 0).trans rfl, (blk_cell BK130.out 1).trans rfl, (blk_cell BK130.out 2).trans rfl, (blk_cell BK130.out 3).trans rfl, (blk_cell BK130.out 4).trans rfl, (blk_cell BK130.out 5).trans rfl, (blk_cell BK130.out 6).trans rfl, (blk_cell BK130.out 7).trans rfl, (blk_cell BK130.out 8).trans rfl, (blk_cell BK130.out 9).trans rfl, (blk_cell BK130.out 10).trans rfl⟩ (fun hHeld => ?_)
            clear hK K
            refine norm_ (a' := ?_) ?_ ?_
            rotate_left
            · show Act.put _ (some 12) _ = _
              simp only [Act.put, List.setIfInBounds_toArray, List.set_cons_zero, List.set_cons_succ, i64_w, i32_w]
              rfl
            refine two_ (i := 9) (j := 11) (Ni := some 15) (Nj := some 5) #[true, true, true, true, true, true, true, true, true, true, false, false, false] #[true, true, true, true, true, true, true, true, true, false, false, true, false] rfl rfl rfl rfl (two_of HT_.out (by kernel_rfl)) (by decide) (by decide) (fun K hK => ?_) (fun K hK => ?_)
            · skip
              refine goes_ Tryd.func23 (by kernel_rfl) rfl #[.int .i64 a0_3, .int .i64 1, .int .i64 4] (by rfl) rfl rfl (by (try simp only [List.map_toArray, List.map_cons, List.map_nil]); first | done | rfl | (simp only [List.length_drop, List.length_take]; rfl)) ?_
              with_reducible refine (empennageref04_near.calls a0_3 1 4 t134 _ A5.out).mono ?_
              rintro e w' ⟨rfl, ⟨nd, rfl⟩⟩
              refine ⟨_, rfl, ?_⟩
              refine hK.out _ _ ⟨(blk_cell BK130.out 0).trans rfl, (blk_cell BK130.out 1).trans rfl, (blk_cell BK130.out 2).trans rfl, (blk_cell BK130.out 3).trans rfl, (blk_cell BK130.out 4).trans rfl, (blk_cell BK130.out 5).trans rfl, (blk_cell BK130.out 6).trans rfl, (blk_cell BK130.out 7).trans rfl, (blk_cell BK130.out 8).trans rfl, (blk_cell BK130.out 9).trans rfl, (blk_cell BK130.out 10).trans rfl⟩ (fun hHeld => ?_)
              clear hK K
              refine norm_ (a' := ?_) ?_ ?_
              rotate_left
              · show Act.put _ (some 15) _ = _
                simp only [Act.put, List.setIfInBounds_toArray, List.set_cons_zero, List.set_cons_succ, i64_w, i32_w]
                rfl
              refine pure_ (i := 10) (N := some 16) (v := ?_) (a' := ?_) #[true, true, true, true, true, true, true, true, true, true, true, false, false] rfl rfl (any_of HT_.out (by kernel_rfl)) (fun _ _ _ h => h) (Or.inl ⟨by rfl, ?_⟩) ?_ ?_
              rotate_left
              · intro w'
                go_simp
                with_reducible rfl
              rotate_left
              · simp only [Act.put, List.setIfInBounds_toArray, List.set_cons_zero, List.set_cons_succ, i64_w, i32_w]
                rfl
              refine one_ (i := 11) (N := some 5) #[true, true, true, true, true, true, true, true, true, true, true, true, false] rfl rfl (one_of HT_.out (by kernel_rfl)) (by decide) (fun K hK => ?_)
              refine box_step ?hg (N := 5) ?hd (cs := #[.int .i64 0, .int .i64 0, .int .i64 0, .int .i64 0, .int .i64 0, .int .i64 0, .int .i64 0, .int .i64 0, .int .i64 0, .int .i64 0, .int .i64 0]) (t := 35) ?hr ?_; (case hd => rfl); (case hg => rfl); (case hr => first | (go_simp; done) | (go_simp; rfl))
              intro gb135 hg w13 hbox hb
              have n0_ := Aside0.mk (blk_below (g := gb130) (o := .cells #[.int .i64 a0_0, .int .i64 a0_1, .int .i64 a0_2, .int .i64 a0_3, .int .i64 a0_4, .int .i64 a0_5, .int .i64 a0_6, .int .i64 a0_7, .int .i64 a0_8, .int .i64 a0_9, .int .i64 a0_10] 35 (0, 0)) (by (with_reducible repeat (first | refine blk_drewN ?_ _ | refine blk_drew ?_ | refine blk_alloc ?_ _)); exact BK130.out) hb)
              have n1_ := Aside0.mk (blk_below (g := gb131) (o := .cells #[.int .i64 0, .int .i64 0, .int .i64 0, .int .i64 0, .int .i64 0, .int .i64 0, .int .i64 0, .int .i64 0, .int .i64 0, .int .i64 0, .int .i64 0] 35 (0, 0)) (by (with_reducible repeat (first | refine blk_drewN ?_ _ | refine blk_drew ?_ | refine blk_alloc ?_ _)); exact BK131.out) hb)
              have n2_ := Aside0.mk (below_step (by repeat (first | (with_reducible first | exact HB.out | apply below_alloc | apply pw_below_drewN | apply below_drew1 | refine below_set ?_ GE130.out | refine below_set ?_ GE131.out) | exact HB.out)) hb)
              have n3_ := Aside0.mk (hbox)
              have n4_ := Aside0.mk ((by rw [hg]; exact (below_size (by repeat (first | (with_reducible first | exact HB.out | apply below_alloc | apply pw_below_drewN | apply below_drew1 | refine below_set ?_ GE130.out | refine below_set ?_ GE131.out) | exact HB.out))) : w.heap.size ≤ gb135))
              have n5_ := Aside0.mk ((by rw [hg]; exact (below_size (by repeat (first | (with_reducible first | exact HB.out | apply below_alloc | apply pw_below_drewN | apply below_drew1 | refine below_set ?_ GE130.out | refine below_set ?_ GE131.out) | exact HB.out))) : w.heap.size ≤ gb135))
              have n6_ := Aside0.mk ((by rw [hg]; exact Nat.ne_of_lt (blk_lt (g := gb130) (o := .cells #[.int .i64 a0_0, .int .i64 a0_1, .int .i64 a0_2, .int .i64 a0_3, .int .i64 a0_4, .int .i64 a0_5, .int .i64 a0_6, .int .i64 a0_7, .int .i64 a0_8, .int .i64 a0_9, .int .i64 a0_10] 35 (0, 0)) (by (with_reducible repeat (first | refine blk_drewN ?_ _ | refine blk_drew ?_ | refine blk_alloc ?_ _)); exact BK130.out)) : gb130 ≠ gb135))
              have n7_ := Aside0.mk ((by rw [hg]; exact Nat.ne_of_gt (blk_lt (g := gb130) (o := .cells #[.int .i64 a0_0, .int .i64 a0_1, .int .i64 a0_2, .int .i64 a0_3, .int .i64 a0_4, .int .i64 a0_5, .int .i64 a0_6, .int .i64 a0_7, .int .i64 a0_8, .int .i64 a0_9, .int .i64 a0_10] 35 (0, 0)) (by (with_reducible repeat (first | refine blk_drewN ?_ _ | refine blk_drew ?_ | refine blk_alloc ?_ _)); exact BK130.out)) : gb135 ≠ gb130))
              have n8_ := Aside0.mk ((by rw [hg]; exact Nat.ne_of_lt (blk_lt (g := gb131) (o := .cells #[.int .i64 0, .int .i64 0, .int .i64 0, .int .i64 0, .int .i64 0, .int .i64 0, .int .i64 0, .int .i64 0, .int .i64 0, .int .i64 0, .int .i64 0] 35 (0, 0)) (by (with_reducible repeat (first | refine blk_drewN ?_ _ | refine blk_drew ?_ | refine blk_alloc ?_ _)); exact BK131.out)) : gb131 ≠ gb135))
              have n9_ := Aside0.mk ((by rw [hg]; exact Nat.ne_of_gt (blk_lt (g := gb131) (o := .cells #[.int .i64 0, .int .i64 0, .int .i64 0, .int .i64 0, .int .i64 0, .int .i64 0, .int .i64 0, .int .i64 0, .int .i64 0, .int .i64 0, .int .i64 0] 35 (0, 0)) (by (with_reducible repeat (first | refine blk_drewN ?_ _ | refine blk_drew ?_ | refine blk_alloc ?_ _)); exact BK131.out)) : gb135 ≠ gb131))
              clear BK130
              clear BK131
              clear HB
              have BK130 := n0_
              have BK131 := n1_
              have HB := n2_
              have BK135 := n3_
              have GW135 := n4_
              have GE135 := n5_
              have NB130_135 := n6_
              have NB135_130 := n7_
              have NB131_135 := n8_
              have NB135_131 := n9_
              clear n0_ n1_ n2_ n3_ n4_ n5_ n6_ n7_ n8_ n9_
              clear hb hbox hg
              refine hK.out _ _ ⟨(blk_cell BK130.out 0).trans rfl, (blk_cell BK130.out 1).trans rfl, (blk_cell BK130.out 2).trans rfl, (blk_cell BK130.out 3).trans rfl, (blk_cell BK130.out 4).trans rfl, (blk_cell BK130.out 5).trans rfl, (blk_cell BK130.out 6).trans rfl, (blk_cell BK130.out 7).trans rfl, (blk_cell BK130.out 8).trans rfl, (blk_cell BK130.out 9).trans rfl, (blk_cell BK130.out 10).trans rfl⟩ (fun hHeld => ?_)
              clear hK K
              refine norm_ (a' := ?_) ?_ ?_
              rotate_left
              · show Act.put _ (some 5) _ = _
                simp only [Act.put, List.setIfInBounds_toArray, List.set_cons_zero, List.set_cons_succ, i64_w, i32_w]
                rfl
              exact norm_ (by simp only [putAll, Act.put, List.setIfInBounds_toArray, List.set_cons_zero, List.set_cons_succ]) (hCont (gb135) _ ⟨hHeld, (by (with_reducible repeat (first | refine blk_drewN ?_ _ | refine blk_drew ?_ | refine blk_alloc ?_ _)); exact BK130.out), (by (with_reducible repeat (first | refine blk_drewN ?_ _ | refine blk_drew ?_ | refine blk_alloc ?_ _)); exact BK131.out), (by (with_reducible repeat (first | refine blk_drewN ?_ _ | refine blk_drew ?_ | refine blk_alloc ?_ _)); exact BK135.out), GW135.out, GE135.out, NB130_135.out, NB135_130.out, NB131_135.out, NB135_131.out, (by repeat (first | (with_reducible first | exact HB.out | apply below_alloc | apply pw_below_drewN | apply below_drew1 | refine below_set ?_ GE130.out | refine below_set ?_ GE131.out | refine below_set ?_ GE135.out) | exact HB.out))⟩)
            · skip
              refine box_step ?hg (N := 5) ?hd (cs := #[.int .i64 0, .int .i64 0, .int .i64 0, .int .i64 0, .int .i64 0, .int .i64 0, .int .i64 0, .int .i64 0, .int .i64 0, .int .i64 0, .int .i64 0]) (t := 35) ?hr ?_; (case hd => rfl); (case hg => rfl); (case hr => first | (go_simp; done) | (go_simp; rfl))
              intro gb135 hg w13 hbox hb
              have n0_ := Aside0.mk (blk_below (g := gb130) (o := .cells #[.int .i64 a0_0, .int .i64 a0_1, .int .i64 a0_2, .int .i64 a0_3, .int .i64 a0_4, .int .i64 a0_5, .int .i64 a0_6, .int .i64 a0_7, .int .i64 a0_8, .int .i64 a0_9, .int .i64 a0_10] 35 (0, 0)) (by (with_reducible repeat (first | refine blk_drewN ?_ _ | refine blk_drew ?_ | refine blk_alloc ?_ _)); exact BK130.out) hb)
              have n1_ := Aside0.mk (blk_below (g := gb131) (o := .cells #[.int .i64 0, .int .i64 0, .int .i64 0, .int .i64 0, .int .i64 0, .int .i64 0, .int .i64 0, .int .i64 0, .int .i64 0, .int .i64 0, .int .i64 0] 35 (0, 0)) (by (with_reducible repeat (first | refine blk_drewN ?_ _ | refine blk_drew ?_ | refine blk_alloc ?_ _)); exact BK131.out) hb)
              have n2_ := Aside0.mk (below_step (by repeat (first | (with_reducible first | exact HB.out | apply below_alloc | apply pw_below_drewN | apply below_drew1 | refine below_set ?_ GE130.out | refine below_set ?_ GE131.out) | exact HB.out)) hb)
              have n3_ := Aside0.mk (hbox)
              have n4_ := Aside0.mk ((by rw [hg]; exact (below_size (by repeat (first | (with_reducible first | exact HB.out | apply below_alloc | apply pw_below_drewN | apply below_drew1 | refine below_set ?_ GE130.out | refine below_set ?_ GE131.out) | exact HB.out))) : w.heap.size ≤ gb135))
              have n5_ := Aside0.mk ((by rw [hg]; exact (below_size (by repeat (first | (with_reducible first | exact HB.out | apply below_alloc | apply pw_below_drewN | apply below_drew1 | refine below_set ?_ GE130.out | refine below_set ?_ GE131.out) | exact HB.out))) : w.heap.size ≤ gb135))
              have n6_ := Aside0.mk ((by rw [hg]; exact Nat.ne_of_lt (blk_lt (g := gb130) (o := .cells #[.int .i64 a0_0, .int .i64 a0_1, .int .i64 a0_2, .int .i64 a0_3, .int .i64 a0_4, .int .i64 a0_5, .int .i64 a0_6, .int .i64 a0_7, .int .i64 a0_8, .int .i64 a0_9, .int .i64 a0_10] 35 (0, 0)) (by (with_reducible repeat (first | refine blk_drewN ?_ _ | refine blk_drew ?_ | refine blk_alloc ?_ _)); exact BK130.out)) : gb130 ≠ gb135))
              have n7_ := Aside0.mk ((by rw [hg]; exact Nat.ne_of_gt (blk_lt (g := gb130) (o := .cells #[.int .i64 a0_0, .int .i64 a0_1, .int .i64 a0_2, .int .i64 a0_3, .int .i64 a0_4, .int .i64 a0_5, .int .i64 a0_6, .int .i64 a0_7, .int .i64 a0_8, .int .i64 a0_9, .int .i64 a0_10] 35 (0, 0)) (by (with_reducible repeat (first | refine blk_drewN ?_ _ | refine blk_drew ?_ | refine blk_alloc ?_ _)); exact BK130.out)) : gb135 ≠ gb130))
              have n8_ := Aside0.mk ((by rw [hg]; exact Nat.ne_of_lt (blk_lt (g := gb131) (o := .cells #[.int .i64 0, .int .i64 0, .int .i64 0, .int .i64 0, .int .i64 0, .int .i64 0, .int .i64 0, .int .i64 0, .int .i64 0, .int .i64 0, .int .i64 0] 35 (0, 0)) (by (with_reducible repeat (first | refine blk_drewN ?_ _ | refine blk_drew ?_ | refine blk_alloc ?_ _)); exact BK131.out)) : gb131 ≠ gb135))
              have n9_ := Aside0.mk ((by rw [hg]; exact Nat.ne_of_gt (blk_lt (g := gb131) (o := .cells #[.int .i64 0, .int .i64 0, .int .i64 0, .int .i64 0, .int .i64 0, .int .i64 0, .int .i64 0, .int .i64 0, .int .i64 0, .int .i64 0, .int .i64 0] 35 (0, 0)) (by (with_reducible repeat (first | refine blk_drewN ?_ _ | refine blk_drew ?_ | refine blk_alloc ?_ _)); exact BK131.out)) : gb135 ≠ gb131))
              clear BK130
              clear BK131
              clear HB
              have BK130 := n0_
              have BK131 := n1_
              have HB := n2_
              have BK135 := n3_
              have GW135 := n4_
              have GE135 := n5_
              have NB130_135 := n6_
              have NB135_130 := n7_
              have NB131_135 := n8_
              have NB135_131 := n9_
              clear n0_ n1_ n2_ n3_ n4_ n5_ n6_ n7_ n8_ n9_
              clear hb hbox hg
              refine hK.out _ _ ⟨(blk_cell BK130.out 0).trans rfl, (blk_cell BK130.out 1).trans rfl, (blk_cell BK130.out 2).trans rfl, (blk_cell BK130.out 3).trans rfl, (blk_cell BK130.out 4).trans rfl, (blk_cell BK130.out 5).trans rfl, (blk_cell BK130.out 6).trans rfl, (blk_cell BK130.out 7).trans rfl, (blk_cell BK130.out 8).trans rfl, (blk_cell BK130.out 9).trans rfl, (blk_cell BK130.out 10).trans rfl⟩ (fun hHeld => ?_)
              clear hK K
              refine norm_ (a' := ?_) ?_ ?_
              rotate_left
              · show Act.put _ (some 5) _ = _
                simp only [Act.put, List.setIfInBounds_toArray, List.set_cons_zero, List.set_cons_succ, i64_w, i32_w]
                rfl
              refine one_ (i := 9) (N := some 15) #[true, true, true, true, true, true, true, true, true, true, false, true, false] rfl rfl (one_of HT_.out (by kernel_rfl)) (by decide) (fun K hK => ?_)
              refine goes_ Tryd.func23 (by kernel_rfl) rfl #[.int .i64 a0_3, .int .i64 1, .int .i64 4] (by rfl) rfl rfl (by (try simp only [List.map_toArray, List.map_cons, List.map_nil]); first | done | rfl | (simp only [List.length_drop, List.length_take]; rfl)) ?_
              with_reducible refine (empennageref04_near.calls a0_3 1 4 t134 _ A5.out).mono ?_
              rintro e w' ⟨rfl, ⟨nd, rfl⟩⟩
              refine ⟨_, rfl, ?_⟩
              refine hK.out _ _ ⟨(blk_cell BK130.out 0).trans rfl, (blk_cell BK130.out 1).trans rfl, (blk_cell BK130.out 2).trans rfl, (blk_cell BK130.out 3).trans rfl, (blk_cell BK130.out 4).trans rfl, (blk_cell BK130.out 5).trans rfl, (blk_cell BK130.out 6).trans rfl, (blk_cell BK130.out 7).trans rfl, (blk_cell BK130.out 8).trans rfl, (blk_cell BK130.out 9).trans rfl, (blk_cell BK130.out 10).trans rfl⟩ (fun hHeld => ?_)
              clear hK K
              refine norm_ (a' := ?_) ?_ ?_
              rotate_left
              · show Act.put _ (some 15) _ = _
                simp only [Act.put, List.setIfInBounds_toArray, List.set_cons_zero, List.set_cons_succ, i64_w, i32_w]
                rfl
              refine pure_ (i := 10) (N := some 16) (v := ?_) (a' := ?_) #[true, true, true, true, true, true, true, true, true, true, true, true, false] rfl rfl (any_of HT_.out (by kernel_rfl)) (fun _ _ _ h => h) (Or.inl ⟨by rfl, ?_⟩) ?_ ?_
              rotate_left
              · intro w'
                go_simp
                with_reducible rfl
              rotate_left
              · simp only [Act.put, List.setIfInBounds_toArray, List.set_cons_zero, List.set_cons_succ, i64_w, i32_w]
                rfl
              exact norm_ (by simp only [putAll, Act.put, List.setIfInBounds_toArray, List.set_cons_zero, List.set_cons_succ]) (hCont (gb135) _ ⟨hHeld, (by (with_reducible repeat (first | refine blk_drewN ?_ _ | refine blk_drew ?_ | refine blk_alloc ?_ _)); exact BK130.out), (by (with_reducible repeat (first | refine blk_drewN ?_ _ | refine blk_drew ?_ | refine blk_alloc ?_ _)); exact BK131.out), (by (with_reducible repeat (first | refine blk_drewN ?_ _ | refine blk_drew ?_ | refine blk_alloc ?_ _)); exact BK135.out), GW135.out, GE135.out, NB130_135.out, NB135_130.out, NB131_135.out, NB135_131.out, (by repeat (first | (with_reducible first | exact HB.out | apply below_alloc | apply pw_below_drewN | apply below_drew1 | refine below_set ?_ GE130.out | refine below_set ?_ GE131.out | refine below_set ?_ GE135.out) | exact HB.out))⟩)
          · skip
            refine box_step ?hg (N := 5) ?hd (cs := #[.int .i64 0, .int .i64 0, .int .i64 0, .int .i64 0, .int .i64 0, .int .i64 0, .int .i64 0, .int .i64 0, .int .i64 0, .int .i64 0, .int .i64 0]) (t := 35) ?hr ?_; (case hd => rfl); (case hg => rfl); (case hr => first | (go_simp; done) | (go_simp; rfl))
            intro gb135 hg w13 hbox hb
            have n0_ := Aside0.mk (blk_below (g := gb130) (o := .cells #[.int .i64 a0_0, .int .i64 a0_1, .int .i64 a0_2, .int .i64 a0_3, .int .i64 a0_4, .int .i64 a0_5, .int .i64 a0_6, .int .i64 a0_7, .int .i64 a0_8, .int .i64 a0_9, .int .i64 a0_10] 35 (0, 0)) (by (with_reducible repeat (first | refine blk_drewN ?_ _ | refine blk_drew ?_ | refine blk_alloc ?_ _)); exact BK130.out) hb)
            have n1_ := Aside0.mk (blk_below (g := gb131) (o := .cells #[.int .i64 0, .int .i64 0, .int .i64 0, .int .i64 0, .int .i64 0, .int .i64 0, .int .i64 0, .int .i64 0, .int .i64 0, .int .i64 0, .int .i64 0] 35 (0, 0)) (by (with_reducible repeat (first | refine blk_drewN ?_ _ | refine blk_drew ?_ | refine blk_alloc ?_ _)); exact BK131.out) hb)
            have n2_ := Aside0.mk (below_step (by repeat (first | (with_reducible first | exact HB.out | apply below_alloc | apply pw_below_drewN | apply below_drew1 | refine below_set ?_ GE130.out | refine below_set ?_ GE131.out) | exact HB.out)) hb)
            have n3_ := Aside0.mk (hbox)
            have n4_ := Aside0.mk ((by rw [hg]; exact (below_size (by repeat (first | (with_reducible first | exact HB.out | apply below_alloc | apply pw_below_drewN | apply below_drew1 | refine below_set ?_ GE130.out | refine below_set ?_ GE131.out) | exact HB.out))) : w.heap.size ≤ gb135))
            have n5_ := Aside0.mk ((by rw [hg]; exact (below_size (by repeat (first | (with_reducible first | exact HB.out | apply below_alloc | apply pw_below_drewN | apply below_drew1 | refine below_set ?_ GE130.out | refine below_set ?_ GE131.out) | exact HB.out))) : w.heap.size ≤ gb135))
            have n6_ := Aside0.mk ((by rw [hg]; exact Nat.ne_of_lt (blk_lt (g := gb130) (o := .cells #[.int .i64 a0_0, .int .i64 a0_1, .int .i64 a0_2, .int .i64 a0_3, .int .i64 a0_4, .int .i64 a0_5, .int .i64 a0_6, .int .i64 a0_7, .int .i64 a0_8, .int .i64 a0_9, .int .i64 a0_10] 35 (0, 0)) (by (with_reducible repeat (first | refine blk_drewN ?_ _ | refine blk_drew ?_ | refine blk_alloc ?_ _)); exact BK130.out)) : gb130 ≠ gb135))
            have n7_ := Aside0.mk ((by rw [hg]; exact Nat.ne_of_gt (blk_lt (g := gb130) (o := .cells #[.int .i64 a0_0, .int .i64 a0_1, .int .i64 a0_2, .int .i64 a0_3, .int .i64 a0_4, .int .i64 a0_5, .int .i64 a0_6, .int .i64 a0_7, .int .i64 a0_8, .int .i64 a0_9, .int .i64 a0_10] 35 (0, 0)) (by (with_reducible repeat (first | refine blk_drewN ?_ _ | refine blk_drew ?_ | refine blk_alloc ?_ _)); exact BK130.out)) : gb135 ≠ gb130))
            have n8_ := Aside0.mk ((by rw [hg]; exact Nat.ne_of_lt (blk_lt (g := gb131) (o := .cells #[.int .i64 0, .int .i64 0, .int .i64 0, .int .i64 0, .int .i64 0, .int .i64 0, .int .i64 0, .int .i64 0, .int .i64 0, .int .i64 0, .int .i64 0] 35 (0, 0)) (by (with_reducible repeat (first | refine blk_drewN ?_ _ | refine blk_drew ?_ | refine blk_alloc ?_ _)); exact BK131.out)) : gb131 ≠ gb135))
            have n9_ := Aside0.mk ((by rw [hg]; exact Nat.ne_of_gt (blk_lt (g := gb131) (o := .cells #[.int .i64 0, .int .i64 0, .int .i64 0, .int .i64 0, .int .i64 0, .int .i64 0, .int .i64 0, .int .i64 0, .int .i64 0, .int .i64 0, .int .i64 0] 35 (0, 0)) (by (with_reducible repeat (first | refine blk_drewN ?_ _ | refine blk_drew ?_ | refine blk_alloc ?_ _)); exact BK131.out)) : gb135 ≠ gb131))
            clear BK130
            clear BK131
            clear HB
            have BK130 := n0_
            have BK131 := n1_
            have HB := n2_
            have BK135 := n3_
            have GW135 := n4_
            have GE135 := n5_
            have NB130_135 := n6_
            have NB135_130 := n7_
            have NB131_135 := n8_
            have NB135_131 := n9_
            clear n0_ n1_ n2_ n3_ n4_ n5_ n6_ n7_ n8_ n9_
            clear hb hbox hg
            refine hK.out _ _ ⟨(blk_cell BK130.out 0).trans rfl, (blk_cell BK130.out 1).trans rfl, (blk_cell BK130.out 2).trans rfl, (blk_cell BK130.out 3).trans rfl, (blk_cell BK130.out 4).trans rfl, (blk_cell BK130.out 5).trans rfl, (blk_cell BK130.out 6).trans rfl, (blk_cell BK130.out 7).trans rfl, (blk_cell BK130.out 8).trans rfl, (blk_cell BK130.out 9).trans rfl, (blk_cell BK130.out 10).trans rfl⟩ (fun hHeld => ?_)
            clear hK K
            refine norm_ (a' := ?_) ?_ ?_
            rotate_left
            · show Act.put _ (some 5) _ = _
              simp only [Act.put, List.setIfInBounds_toArray, List.set_cons_zero, List.set_cons_succ, i64_w, i32_w]
              rfl
            refine one_ (i := 6) (N := some 12) #[true, true, true, true, true, true, true, true, true, false, false, true, false] rfl rfl (one_of HT_.out (by kernel_rfl)) (by decide) (fun K hK => ?_)
            refine goes_ Tryd.func23 (by kernel_rfl) rfl #[.int .i64 a0_1, .int .i64 0, .int .i64 a1] (by rfl) rfl rfl (by (try simp only [List.map_toArray, List.map_cons, List.map_nil]); first | done | rfl | (simp only [List.length_drop, List.length_take]; rfl)) ?_
            with_reducible refine (empennageref04_near.calls a0_1 0 a1 t133 _ A4.out).mono ?_
            rintro e w' ⟨rfl, ⟨nd, rfl⟩⟩
            refine ⟨_, rfl, ?_⟩
            refine hK.out _ _ ⟨(blk_cell BK130.out 0).trans rfl, (blk_cell BK130.out 1).trans rfl, (blk_cell BK130.out 2).trans rfl, (blk_cell BK130.out 3).trans rfl, (blk_cell BK130.out 4).trans rfl, (blk_cell BK130.out 5).trans rfl, (blk_cell BK130.out 6).trans rfl, (blk_cell BK130.out 7).trans rfl, (blk_cell BK130.out 8).trans rfl, (blk_cell BK130.out 9).trans rfl, (blk_cell BK130.out 10).trans rfl⟩ (fun hHeld => ?_)
            clear hK K
            refine norm_ (a' := ?_) ?_ ?_
            rotate_left
            · show Act.put _ (some 12) _ = _
              simp only [Act.put, List.setIfInBounds_toArray, List.set_cons_zero, List.set_cons_succ, i64_w, i32_w]
              rfl
            refine one_ (i := 9) (N := some 15) #[true, true, true, true, true, true, true, true, true, true, false, true, false] rfl rfl (one_of HT_.out (by kernel_rfl)) (by decide) (fun K hK => ?_)
            refine goes_ Tryd.func23 (by kernel_rfl) rfl #[.int .i64 a0_3, .int .i64 1, .int .i64 4] (by rfl) rfl rfl (by (try simp only [List.map_toArray, List.map_cons, List.map_nil]); first | done | rfl | (simp only [List.length_drop, List.length_take]; rfl)) ?_
            with_reducible refine (empennageref04_near.calls a0_3 1 4 t134 _ A5.out).mono ?_
            rintro e w' ⟨rfl, ⟨nd, rfl⟩⟩
            refine ⟨_, rfl, ?_⟩
            refine hK.out _ _ ⟨(blk_cell BK130.out 0).trans rfl, (blk_cell BK130.out 1).trans rfl, (blk_cell BK130.out 2).trans rfl, (blk_cell BK130.out 3).trans rfl, (blk_cell BK130.out 4).trans rfl, (blk_cell BK130.out 5).trans rfl, (blk_cell BK130.out 6).trans rfl, (blk_cell BK130.out 7).trans rfl, (blk_cell BK130.out 8).trans rfl, (blk_cell BK130.out 9).trans rfl, (blk_cell BK130.out 10).trans rfl⟩ (fun hHeld => ?_)
            clear hK K
            refine norm_ (a' := ?_) ?_ ?_
            rotate_left
            · show Act.put _ (some 15) _ = _
              simp only [Act.put, List.setIfInBounds_toArray, List.set_cons_zero, List.set_cons_succ, i64_w, i32_w]
              rfl
            refine pure_ (i := 10) (N := some 16) (v := ?_) (a' := ?_) #[true, true, true, true, true, true, true, true, true, true, true, true, false] rfl rfl (any_of HT_.out (by kernel_rfl)) (fun _ _ _ h => h) (Or.inl ⟨by rfl, ?_⟩) ?_ ?_
            rotate_left
            · intro w'
              go_simp
              with_reducible rfl
            rotate_left
            · simp only [Act.put, List.setIfInBounds_toArray, List.set_cons_zero, List.set_cons_succ, i64_w, i32_w]
              rfl
            exact norm_ (by simp only [putAll, Act.put, List.setIfInBounds_toArray, List.set_cons_zero, List.set_cons_succ]) (hCont (gb135) _ ⟨hHeld, (by (with_reducible repeat (first | refine blk_drewN ?_ _ | refine blk_drew ?_ | refine blk_alloc ?_ _)); exact BK130.out), (by (with_reducible repeat (first | refine blk_drewN ?_ _ | refine blk_drew ?_ | refine blk_alloc ?_ _)); exact BK131.out), (by (with_reducible repeat (first | refine blk_drewN ?_ _ | refine blk_drew ?_ | refine blk_alloc ?_ _)); exact BK135.out), GW135.out, GE135.out, NB130_135.out, NB135_130.out, NB131_135.out, NB135_131.out, (by repeat (first | (with_reducible first | exact HB.out | apply below_alloc | apply pw_below_drewN | apply below_drew1 | refine below_set ?_ GE130.out | refine below_set ?_ GE131.out | refine below_set ?_ GE135.out) | exact HB.out))⟩)
        · skip
          refine box_step ?hg (N := 5) ?hd (cs := #[.int .i64 0, .int .i64 0, .int .i64 0, .int .i64 0, .int .i64 0, .int .i64 0, .int .i64 0, .int .i64 0, .int .i64 0, .int .i64 0, .int .i64 0]) (t := 35) ?hr ?_; (case hd => rfl); (case hg => rfl); (case hr => first | (go_simp; done) | (go_simp; rfl))
          intro gb135 hg w13 hbox hb
          have n0_ := Aside0.mk (blk_below (g := gb130) (o := .cells #[.int .i64 a0_0, .int .i64 a0_1, .int .i64 a0_2, .int .i64 a0_3, .int .i64 a0_4, .int .i64 a0_5, .int .i64 a0_6, .int .i64 a0_7, .int .i64 a0_8, .int .i64 a0_9, .int .i64 a0_10] 35 (0, 0)) (by (with_reducible repeat (first | refine blk_drewN ?_ _ | refine blk_drew ?_ | refine blk_alloc ?_ _)); exact BK130.out) hb)
          have n1_ := Aside0.mk (blk_below (g := gb131) (o := .cells #[.int .i64 0, .int .i64 0, .int .i64 0, .int .i64 0, .int .i64 0, .int .i64 0, .int .i64 0, .int .i64 0, .int .i64 0, .int .i64 0, .int .i64 0] 35 (0, 0)) (by (with_reducible repeat (first | refine blk_drewN ?_ _ | refine blk_drew ?_ | refine blk_alloc ?_ _)); exact BK131.out) hb)
          have n2_ := Aside0.mk (below_step (by repeat (first | (with_reducible first | exact HB.out | apply below_alloc | apply pw_below_drewN | apply below_drew1 | refine below_set ?_ GE130.out | refine below_set ?_ GE131.out) | exact HB.out)) hb)
          have n3_ := Aside0.mk (hbox)
          have n4_ := Aside0.mk ((by rw [hg]; exact (below_size (by repeat (first | (with_reducible first | exact HB.out | apply below_alloc | apply pw_below_drewN | apply below_drew1 | refine below_set ?_ GE130.out | refine below_set ?_ GE131.out) | exact HB.out))) : w.heap.size ≤ gb135))
          have n5_ := Aside0.mk ((by rw [hg]; exact (below_size (by repeat (first | (with_reducible first | exact HB.out | apply below_alloc | apply pw_below_drewN | apply below_drew1 | refine below_set ?_ GE130.out | refine below_set ?_ GE131.out) | exact HB.out))) : w.heap.size ≤ gb135))
          have n6_ := Aside0.mk ((by rw [hg]; exact Nat.ne_of_lt (blk_lt (g := gb130) (o := .cells #[.int .i64 a0_0, .int .i64 a0_1, .int .i64 a0_2, .int .i64 a0_3, .int .i64 a0_4, .int .i64 a0_5, .int .i64 a0_6, .int .i64 a0_7, .int .i64 a0_8, .int .i64 a0_9, .int .i64 a0_10] 35 (0, 0)) (by (with_reducible repeat (first | refine blk_drewN ?_ _ | refine blk_drew ?_ | refine blk_alloc ?_ _)); exact BK130.out)) : gb130 ≠ gb135))
          have n7_ := Aside0.mk ((by rw [hg]; exact Nat.ne_of_gt (blk_lt (g := gb130) (o := .cells #[.int .i64 a0_0, .int .i64 a0_1, .int .i64 a0_2, .int .i64 a0_3, .int .i64 a0_4, .int .i64 a0_5, .int .i64 a0_6, .int .i64 a0_7, .int .i64 a0_8, .int .i64 a0_9, .int .i64 a0_10] 35 (0, 0)) (by (with_reducible repeat (first | refine blk_drewN ?_ _ | refine blk_drew ?_ | refine blk_alloc ?_ _)); exact BK130.out)) : gb135 ≠ gb130))
          have n8_ := Aside0.mk ((by rw [hg]; exact Nat.ne_of_lt (blk_lt (g := gb131) (o := .cells #[.int .i64 0, .int .i64 0, .int .i64 0, .int .i64 0, .int .i64 0, .int .i64 0, .int .i64 0, .int .i64 0, .int .i64 0, .int .i64 0, .int .i64 0] 35 (0, 0)) (by (with_reducible repeat (first | refine blk_drewN ?_ _ | refine blk_drew ?_ | refine blk_alloc ?_ _)); exact BK131.out)) : gb131 ≠ gb135))
          have n9_ := Aside0.mk ((by rw [hg]; exact Nat.ne_of_gt (blk_lt (g := gb131) (o := .cells #[.int .i64 0, .int .i64 0, .int .i64 0, .int .i64 0, .int .i64 0, .int .i64 0, .int .i64 0, .int .i64 0, .int .i64 0, .int .i64 0, .int .i64 0] 35 (0, 0)) (by (with_reducible repeat (first | refine blk_drewN ?_ _ | refine blk_drew ?_ | refine blk_alloc ?_ _)); exact BK131.out)) : gb135 ≠ gb131))
          clear BK130
          clear BK131
          clear HB
          have BK130 := n0_
          have BK131 := n1_
          have HB := n2_
          have BK135 := n3_
          have GW135 := n4_
          have GE135 := n5_
          have NB130_135 := n6_
          have NB135_130 := n7_
          have NB131_135 := n8_
          have NB135_131 := n9_
          clear n0_ n1_ n2_ n3_ n4_ n5_ n6_ n7_ n8_ n9_
          clear hb hbox hg
          refine hK.out _ _ ⟨(blk_cell BK130.out 0).trans rfl, (blk_cell BK130.out 1).trans rfl, (blk_cell BK130.out 2).trans rfl, (blk_cell BK130.out 3).trans rfl, (blk_cell BK130.out 4).trans rfl, (blk_cell BK130.out 5).trans rfl, (blk_cell BK130.out 6).trans rfl, (blk_cell BK130.out 7).trans rfl, (blk_cell BK130.out 8).trans rfl, (blk_cell BK130.out 9).trans rfl, (blk_cell BK130.out 10).trans rfl⟩ (fun hHeld => ?_)
          clear hK K
          refine norm_ (a' := ?_) ?_ ?_
          rotate_left
          · show Act.put _ (some 5) _ = _
            simp only [Act.put, List.setIfInBounds_toArray, List.set_cons_zero, List.set_cons_succ, i64_w, i32_w]
            rfl
          refine one_ (i := 2) (N := some 8) #[true, true, true, true, true, true, false, true, true, false, false, true, false] rfl rfl (one_of HT_.out (by kernel_rfl)) (by decide) (fun K hK => ?_)
          refine goes_ Tryd.func23 (by kernel_rfl) rfl #[.int .i64 a0_0, .int .i64 0, .int .i64 2] (by rfl) rfl rfl (by (try simp only [List.map_toArray, List.map_cons, List.map_nil]); first | done | rfl | (simp only [List.length_drop, List.length_take]; rfl)) ?_
          with_reducible refine (empennageref04_near.calls a0_0 0 2 t132 _ A3.out).mono ?_
          rintro e w' ⟨rfl, ⟨nd, rfl⟩⟩
          refine ⟨_, rfl, ?_⟩
          refine hK.out _ _ ⟨(blk_cell BK130.out 0).trans rfl, (blk_cell BK130.out 1).trans rfl, (blk_cell BK130.out 2).trans rfl, (blk_cell BK130.out 3).trans rfl, (blk_cell BK130.out 4).trans rfl, (blk_cell BK130.out 5).trans rfl, (blk_cell BK130.out 6).trans rfl, (blk_cell BK130.out 7).trans rfl, (blk_cell BK130.out 8).trans rfl, (blk_cell BK130.out 9).trans rfl, (blk_cell BK130.out 10).trans rfl⟩ (fun hHeld => ?_)
          clear hK K
          refine norm_ (a' := ?_) ?_ ?_
          rotate_left
          · show Act.put _ (some 8) _ = _
            simp only [Act.put, List.setIfInBounds_toArray, List.set_cons_zero, List.set_cons_succ, i64_w, i32_w]
            rfl
          refine one_ (i := 6) (N := some 12) #[true, true, true, true, true, true, true, true, true, false, false, true, false] rfl rfl (one_of HT_.out (by kernel_rfl)) (by decide) (fun K hK => ?_)
          refine goes_ Tryd.func23 (by kernel_rfl) rfl #[.int .i64 a0_1, .int .i64 0, .int .i64 a1] (by rfl) rfl rfl (by (try simp only [List.map_toArray, List.map_cons, List.map_nil]); first | done | rfl | (simp only [List.length_drop, List.length_take]; rfl)) ?_
          with_reducible refine (empennageref04_near.calls a0_1 0 a1 t133 _ A4.out).mono ?_
          rintro e w' ⟨rfl, ⟨nd, rfl⟩⟩
          refine ⟨_, rfl, ?_⟩
          refine hK.out _ _ ⟨(blk_cell BK130.out 0).trans rfl, (blk_cell BK130.out 1).trans rfl, (blk_cell BK130.out 2).trans rfl, (blk_cell BK130.out 3).trans rfl, (blk_cell BK130.out 4).trans rfl, (blk_cell BK130.out 5).trans rfl, (blk_cell BK130.out 6).trans rfl, (blk_cell BK130.out 7).trans rfl, (blk_cell BK130.out 8).trans rfl, (blk_cell BK130.out 9).trans rfl, (blk_cell BK130.out 10).trans rfl⟩ (fun hHeld => ?_)
          clear hK K
          refine norm_ (a' := ?_) ?_ ?_
          rotate_left
          · show Act.put _ (some 12) _ = _
            simp only [Act.put, List.setIfInBounds_toArray, List.set_cons_zero, List.set_cons_succ, i64_w, i32_w]
            rfl
          refine one_ (i := 9) (N := some 15) #[true, true, true, true, true, true, true, true, true, true, false, true, false] rfl rfl (one_of HT_.out (by kernel_rfl)) (by decide) (fun K hK => ?_)
          refine goes_ Tryd.func23 (by kernel_rfl) rfl #[.int .i64 a0_3, .int .i64 1, .int .i64 4] (by rfl) rfl rfl (by (try simp only [List.map_toArray, List.map_cons, List.map_nil]); first | done | rfl | (simp only [List.length_drop, List.length_take]; rfl)) ?_
          with_reducible refine (empennageref04_near.calls a0_3 1 4 t134 _ A5.out).mono ?_
          rintro e w' ⟨rfl, ⟨nd, rfl⟩⟩
          refine ⟨_, rfl, ?_⟩
          refine hK.out _ _ ⟨(blk_cell BK130.out 0).trans rfl, (blk_cell BK130.out 1).trans rfl, (blk_cell BK130.out 2).trans rfl, (blk_cell BK130.out 3).trans rfl, (blk_cell BK130.out 4).trans rfl, (blk_cell BK130.out 5).trans rfl, (blk_cell BK130.out 6).trans rfl, (blk_cell BK130.out 7).trans rfl, (blk_cell BK130.out 8).trans rfl, (blk_cell BK130.out 9).trans rfl, (blk_cell BK130.out 10).trans rfl⟩ (fun hHeld => ?_)
          clear hK K
          refine norm_ (a' := ?_) ?_ ?_
          rotate_left
          · show Act.put _ (some 15) _ = _
            simp only [Act.put, List.setIfInBounds_toArray, List.set_cons_zero, List.set_cons_succ, i64_w, i32_w]
            rfl
          refine pure_ (i := 10) (N := some 16) (v := ?_) (a' := ?_) #[true, true, true, true, true, true, true, true, true, true, true, true, false] rfl rfl (any_of HT_.out (by kernel_rfl)) (fun _ _ _ h => h) (Or.inl ⟨by rfl, ?_⟩) ?_ ?_
          rotate_left
          · intro w'
            go_simp
            with_reducible rfl
          rotate_left
          · simp only [Act.put, List.setIfInBounds_toArray, List.set_cons_zero, List.set_cons_succ, i64_w, i32_w]
            rfl
          exact norm_ (by simp only [putAll, Act.put, List.setIfInBounds_toArray, List.set_cons_zero, List.set_cons_succ]) (hCont (gb135) _ ⟨hHeld, (by (with_reducible repeat (first | refine blk_drewN ?_ _ | refine blk_drew ?_ | refine blk_alloc ?_ _)); exact BK130.out), (by (with_reducible repeat (first | refine blk_drewN ?_ _ | refine blk_drew ?_ | refine blk_alloc ?_ _)); exact BK131.out), (by (with_reducible repeat (first | refine blk_drewN ?_ _ | refine blk_drew ?_ | refine blk_alloc ?_ _)); exact BK135.out), GW135.out, GE135.out, NB130_135.out, NB135_130.out, NB131_135.out, NB135_131.out, (by repeat (first | (with_reducible first | exact HB.out | apply below_alloc | apply pw_below_drewN | apply below_drew1 | refine below_set ?_ GE130.out | refine below_set ?_ GE131.out | refine below_set ?_ GE135.out) | exact HB.out))⟩)
      rintro gb135 w14 ⟨hS_, h0_, h1_, h2_, h3_, h4_, h5_, h6_, h7_, h8_, h9_⟩
      have n0_ : Aside0 (w14.heap[gb130]? = some (.cells #[.int .i64 a0_0, .int .i64 a0_1, .int .i64 a0_2, .int .i64 a0_3, .int .i64 a0_4, .int .i64 a0_5, .int .i64 a0_6, .int .i64 a0_7, .int .i64 a0_8, .int .i64 a0_9, .int .i64 a0_10] 35 (0, 0))) := ⟨h0_⟩
      have n1_ : Aside0 (w14.heap[gb131]? = some (.cells #[.int .i64 0, .int .i64 0, .int .i64 0, .int .i64 0, .int .i64 0, .int .i64 0, .int .i64 0, .int .i64 0, .int .i64 0, .int .i64 0, .int .i64 0] 35 (0, 0))) := ⟨h1_⟩
      have n2_ : Aside0 (w14.heap[gb135]? = some (.cells #[.int .i64 0, .int .i64 0, .int .i64 0, .int .i64 0, .int .i64 0, .int .i64 0, .int .i64 0, .int .i64 0, .int .i64 0, .int .i64 0, .int .i64 0] 35 (0, 0))) := ⟨h2_⟩
      have n3_ : Aside0 (w.heap.size ≤ gb135) := ⟨h3_⟩
      have n4_ : Aside0 (w.heap.size ≤ gb135) := ⟨h4_⟩
      have n5_ : Aside0 (gb130 ≠ gb135) := ⟨h5_⟩
      have n6_ : Aside0 (gb135 ≠ gb130) := ⟨h6_⟩
      have n7_ : Aside0 (gb131 ≠ gb135) := ⟨h7_⟩
      have n8_ : Aside0 (gb135 ≠ gb131) := ⟨h8_⟩
      have n9_ : Aside0 (Below w.heap.size w w14) := ⟨h9_⟩
      clear BK130
      clear BK131
      clear HB
      clear h0_ h1_ h2_ h3_ h4_ h5_ h6_ h7_ h8_ h9_
      have BK130 := n0_
      have BK131 := n1_
      have BK135 := n2_
      have GW135 := n3_
      have GE135 := n4_
      have NB130_135 := n5_
      have NB135_130 := n6_
      have NB131_135 := n7_
      have NB135_131 := n8_
      have HB := n9_
      clear n0_ n1_ n2_ n3_ n4_ n5_ n6_ n7_ n8_ n9_
      have hHeld : w14.cell? ⟨gb130, 0, none⟩ = some (.int .i64 a0_0) ∧ w14.cell? ⟨gb130, 1, none⟩ = some (.int .i64 a0_1) ∧ w14.cell? ⟨gb130, 2, none⟩ = some (.int .i64 a0_2) ∧ w14.cell? ⟨gb130, 3, none⟩ = some (.int .i64 a0_3) ∧ w14.cell? ⟨gb130, 4, none⟩ = some (.int .i64 a0_4) ∧ w14.cell? ⟨gb130, 5, none⟩ = some (.int .i64 a0_5) ∧ w14.cell? ⟨gb130, 6, none⟩ = some (.int .i64 a0_6) ∧ w14.cell? ⟨gb130, 7, none⟩ = some (.int .i64 a0_7) ∧ w14.cell? ⟨gb130, 8, none⟩ = some (.int .i64 a0_8) ∧ w14.cell? ⟨gb130, 9, none⟩ = some (.int .i64 a0_9) ∧ w14.cell? ⟨gb130, 10, none⟩ = some (.int .i64 a0_10) := hS_
      refine norm_ (a' := ?_) ?_ ?_
      rotate_left
      · simp only [putAll, Act.put, List.setIfInBounds_toArray, List.set_cons_zero, List.set_cons_succ]
        rfl
      refine one_ (i := 12) (N := none) #[true, true, true, true, true, true, true, true, true, true, true, true, true] rfl rfl (one_of HT_.out (by kernel_rfl)) (by decide) (fun K hK => ?_)
      have hs15 : w14.cell? ⟨gb135, 0, none⟩ = some (.int .i64 0) := (blk_cell BK135.out 0).trans rfl
      have hfs15 := blk_frozen BK135.out 0
      have hns15_0 := NB130_135.out
      have hns15_1 := NB131_135.out
      have hms15_0 := NB135_130.out
      have hms15_1 := NB135_131.out
      have hs16 : w14.cell? ⟨gb135, 1, none⟩ = some (.int .i64 0) := (blk_cell BK135.out 1).trans rfl
      have hfs16 := blk_frozen BK135.out 1
      have hns16_0 := NB130_135.out
      have hns16_1 := NB131_135.out
      have hms16_0 := NB135_130.out
      have hms16_1 := NB135_131.out
      have hs17 : w14.cell? ⟨gb135, 2, none⟩ = some (.int .i64 0) := (blk_cell BK135.out 2).trans rfl
      have hfs17 := blk_frozen BK135.out 2
      have hns17_0 := NB130_135.out
      have hns17_1 := NB131_135.out
      have hms17_0 := NB135_130.out
      have hms17_1 := NB135_131.out
      have hs18 : w14.cell? ⟨gb135, 3, none⟩ = some (.int .i64 0) := (blk_cell BK135.out 3).trans rfl
      have hfs18 := blk_frozen BK135.out 3
      have hns18_0 := NB130_135.out
      have hns18_1 := NB131_135.out
      have hms18_0 := NB135_130.out
      have hms18_1 := NB135_131.out
      have hs19 : w14.cell? ⟨gb135, 4, none⟩ = some (.int .i64 0) := (blk_cell BK135.out 4).trans rfl
      have hfs19 := blk_frozen BK135.out 4
      have hns19_0 := NB130_135.out
      have hns19_1 := NB131_135.out
      have hms19_0 := NB135_130.out
      have hms19_1 := NB135_131.out
      have hs20 : w14.cell? ⟨gb135, 5, none⟩ = some (.int .i64 0) := (blk_cell BK135.out 5).trans rfl
      have hfs20 := blk_frozen BK135.out 5
      have hns20_0 := NB130_135.out
      have hns20_1 := NB131_135.out
      have hms20_0 := NB135_130.out
      have hms20_1 := NB135_131.out
      have hs21 : w14.cell? ⟨gb135, 6, none⟩ = some (.int .i64 0) := (blk_cell BK135.out 6).trans rfl
      have hfs21 := blk_frozen BK135.out 6
      have hns21_0 := NB130_135.out
      have hns21_1 := NB131_135.out
      have hms21_0 := NB135_130.out
      have hms21_1 := NB135_131.out
      have hs22 : w14.cell? ⟨gb135, 7, none⟩ = some (.int .i64 0) := (blk_cell BK135.out 7).trans rfl
      have hfs22 := blk_frozen BK135.out 7
      have hns22_0 := NB130_135.out
      have hns22_1 := NB131_135.out
      have hms22_0 := NB135_130.out
      have hms22_1 := NB135_131.out
      have hs23 : w14.cell? ⟨gb135, 8, none⟩ = some (.int .i64 0) := (blk_cell BK135.out 8).trans rfl
      have hfs23 := blk_frozen BK135.out 8
      have hns23_0 := NB130_135.out
      have hns23_1 := NB131_135.out
      have hms23_0 := NB135_130.out
      have hms23_1 := NB135_131.out
      have hs24 : w14.cell? ⟨gb135, 9, none⟩ = some (.int .i64 0) := (blk_cell BK135.out 9).trans rfl
      have hfs24 := blk_frozen BK135.out 9
      have hns24_0 := NB130_135.out
      have hns24_1 := NB131_135.out
      have hms24_0 := NB135_130.out
      have hms24_1 := NB135_131.out
      have hs25 : w14.cell? ⟨gb135, 10, none⟩ = some (.int .i64 0) := (blk_cell BK135.out 10).trans rfl
      have hfs25 := blk_frozen BK135.out 10
      have hns25_0 := NB130_135.out
      have hns25_1 := NB131_135.out
      have hms25_0 := NB135_130.out
      have hms25_1 := NB135_131.out
      refine skip_ (w1 := ?_) (by rfl) rfl ?_ ?_
      rotate_left
      · go_simp
        rfl
      refine hK.out _ _ ⟨((cell_far (p := ⟨gb135, _, none⟩) NB130_135.out _).trans (((cell_far (p := ⟨gb135, _, none⟩) NB130_135.out _).trans (((cell_far (p := ⟨gb135, _, none⟩) NB130_135.out _).trans (((cell_far (p := ⟨gb135, _, none⟩) NB130_135.out _).trans (((cell_far (p := ⟨gb135, _, none⟩) NB130_135.out _).trans (((cell_far (p := ⟨gb135, _, none⟩) NB130_135.out _).trans (((cell_far (p := ⟨gb135, _, none⟩) NB130_135.out _).trans (((cell_far (p := ⟨gb135, _, none⟩) NB130_135.out _).trans (((cell_far (p := ⟨gb135, _, none⟩) NB130_135.out _).trans (((cell_far (p := ⟨gb135, _, none⟩) NB130_135.out _).trans (((cell_far (p := ⟨gb135, _, none⟩) NB130_135.out _).trans (hHeld.1)))))))))))))))))))))), ((cell_far (p := ⟨gb135, _, none⟩) NB130_135.out _).trans (((cell_far (p := ⟨gb135, _, none⟩) NB130_135.out _).trans (((cell_far (p := ⟨gb135, _, none⟩) NB130_135.out _).trans (((cell_far (p := ⟨gb135, _, none⟩) NB130_135.out _).trans (((cell_far (p := ⟨gb135, _, none⟩) NB130_135.out _).trans (((cell_far (p := ⟨gb135, _, none⟩) NB130_135.out _).trans (((cell_far (p := ⟨gb135, _, none⟩) NB130_135.out _).trans (((cell_far (p := ⟨gb135, _, none⟩) NB130_135.out _).trans (((cell_far (p := ⟨gb135, _, none⟩) NB130_135.out _).trans (((cell_far (p := ⟨gb135, _, none⟩) NB130_135.out _).trans (((cell_far (p := ⟨gb135, _, none⟩) NB130_135.out _).trans (hHeld.2.1)))))))))))))))))))))), ((cell_far (p := ⟨gb135, _, none⟩) NB130_135.out _).trans (((cell_far (p := ⟨gb135, _, none⟩) NB130_135.out _).trans (((cell_far (p := ⟨gb135, _, none⟩) NB130_135.out _).trans (((cell_far (p := ⟨gb135, _, none⟩) NB130_135.out _).trans (((cell_far (p := ⟨gb135, _, none⟩) NB130_135.out _).trans (((cell_far (p := ⟨gb135, _, none⟩) NB130_135.out _).trans (((cell_far (p := ⟨gb135, _, none⟩) NB130_135.out _).trans (((cell_far (p := ⟨gb135, _, none⟩) NB130_135.out _).trans (((cell_far (p := ⟨gb135, _, none⟩) NB130_135.out _).trans (((cell_far (p := ⟨gb135, _, none⟩) NB130_135.out _).trans (((cell_far (p := ⟨gb135, _, none⟩) NB130_135.out _).trans (hHeld.2.2.1)))))))))))))))))))))), ((cell_far (p := ⟨gb135, _, none⟩) NB130_135.out _).trans (((cell_far (p := ⟨gb135, _, none⟩) NB130_135.out _).trans (((cell_far (p := ⟨gb135, _, none⟩) NB130_135.out _).trans (((cell_far (p := ⟨gb135, _, none⟩) NB130_135.out _).trans (((cell_far (p := ⟨gb135, _, none⟩) NB130_135.out _).trans (((cell_far (p := ⟨gb135, _, none⟩) NB130_135.out _).trans (((cell_far (p := ⟨gb135, _, none⟩) NB130_135.out _).trans (((cell_far (p := ⟨gb135, _, none⟩) NB130_135.out _).trans (((cell_far (p := ⟨gb135, _, none⟩) NB130_135.out _).trans (((cell_far (p := ⟨gb135, _, none⟩) NB130_135.out _).trans (((cell_far (p := ⟨gb135, _, none⟩) NB130_135.out _).trans (hHeld.2.2.2.1)))))))))))))))))))))), ((cell_far (p := ⟨gb135, _, none⟩) NB130_135.out _).trans (((cell_far (p := ⟨gb135, _, none⟩) NB130_135.out _).trans (((cell_far (p := ⟨gb135, _, none⟩) NB130_135.out _).trans (((cell_far (p := ⟨gb135, _, none⟩) NB130_135.out _).trans (((cell_far (p := ⟨gb135, _, none⟩) NB130_135.out _).trans (((cell_far (p := ⟨gb135, _, none⟩) NB130_135.out _).trans (((cell_far (p := ⟨gb135, _, none⟩) NB130_135.out _).trans (((cell_far (p := ⟨gb135, _, none⟩) NB130_135.out _).trans (((cell_far (p := ⟨gb135, _, none⟩) NB130_135.out _).trans (((cell_far (p := ⟨gb135, _, none⟩) NB130_135.out _).trans (((cell_far (p := ⟨gb135, _, none⟩) NB130_135.out _).trans (hHeld.2.2.2.2.1)))))))))))))))))))))), ((cell_far (p := ⟨gb135, _, none⟩) NB130_135.out _).trans (((cell_far (p := ⟨gb135, _, none⟩) NB130_135.out _).trans (((cell_far (p := ⟨gb135, _, none⟩) NB130_135.out _).trans (((cell_far (p := ⟨gb135, _, none⟩) NB130_135.out _).trans (((cell_far (p := ⟨gb135, _, none⟩) NB130_135.out _).trans (((cell_far (p := ⟨gb135, _, none⟩) NB130_135.out _).trans (((cell_far (p := ⟨gb135, _, none⟩) NB130_135.out _).trans (((cell_far (p := ⟨gb135, _, none⟩) NB130_135.out _).trans (((cell_far (p := ⟨gb135, _, none⟩) NB130_135.out _).trans (((cell_far (p := ⟨gb135, _, none⟩) NB130_135.out _).trans (((cell_far (p := ⟨gb135, _, none⟩) NB130_135.out _).trans (hHeld.2.2.2.2.2.1)))))))))))))))))))))), ((cell_far (p := ⟨gb135, _, none⟩) NB130_135.out _).trans (((cell_far (p := ⟨gb135, _, none⟩) NB130_135.out _).trans (((cell_far (p := ⟨gb135, _, none⟩) NB130_135.out _).trans (((cell_far (p := ⟨gb135, _, none⟩) NB130_135.out _).trans (((cell_far (p := ⟨gb135, _, none⟩) NB130_135.out _).trans (((cell_far (p := ⟨gb135, _, none⟩) NB130_135.out _).trans (((cell_far (p := ⟨gb135, _, none⟩) NB130_135.out _).trans (((cell_far (p := ⟨gb135, _, none⟩) NB130_135.out _).trans (((cell_far (p := ⟨gb135, _, none⟩) NB130_135.out _).trans (((cell_far (p := ⟨gb135, _, none⟩) NB130_135.out _).trans (((cell_far (p := ⟨gb135, _, none⟩) NB130_135.out _).trans (hHeld.2.2.2.2.2.2.1)))))))))))))))))))))), ((cell_far (p := ⟨gb135, _, none⟩) NB130_135.out _).trans (((cell_far (p := ⟨gb135, _, none⟩) NB130_135.out _).trans (((cell_far (p := ⟨gb135, _, none⟩) NB130_135.out _).trans (((cell_far (p := ⟨gb135, _, none⟩) NB130_135.out _).trans (((cell_far (p := ⟨gb135, _, none⟩) NB130_135.out _).trans (((cell_far (p := ⟨gb135, _, none⟩) NB130_135.out _).trans (((cell_far (p := ⟨gb135, _, none⟩) NB130_135.out _).trans (((cell_far (p := ⟨gb135, _, none⟩) NB130_135.out _).trans (((cell_far (p := ⟨gb135, _, none⟩) NB130_135.out _).trans (((cell_far (p := ⟨gb135, _, none⟩) NB130_135.out _).trans (((cell_far (p := ⟨gb135, _, none⟩) NB130_135.out _).trans (hHeld.2.2.2.2.2.2.2.1)))))))))))))))))))))), ((cell_far (p := ⟨gb135, _, none⟩) NB130_135.out _).trans (((cell_far (p := ⟨gb135, _, none⟩) NB130_135.out _).trans (((cell_far (p := ⟨gb135, _, none⟩) NB130_135.out _).trans (((cell_far (p := ⟨gb135, _, none⟩) NB130_135.out _).trans (((cell_far (p := ⟨gb135, _, none⟩) NB130_135.out _).trans (((cell_far (p := ⟨gb135, _, none⟩) NB130_135.out _).trans (((cell_far (p := ⟨gb135, _, none⟩) NB130_135.out _).trans (((cell_far (p := ⟨gb135, _, none⟩) NB130_135.out _).trans (((cell_far (p := ⟨gb135, _, none⟩) NB130_135.out _).trans (((cell_far (p := ⟨gb135, _, none⟩) NB130_135.out _).trans (((cell_far (p := ⟨gb135, _, none⟩) NB130_135.out _).trans (hHeld.2.2.2.2.2.2.2.2.1)))))))))))))))))))))), ((cell_far (p := ⟨gb135, _, none⟩) NB130_135.out _).trans (((cell_far (p := ⟨gb135, _, none⟩) NB130_135.out _).trans (((cell_far (p := ⟨gb135, _, none⟩) NB130_135.out _).trans (((cell_far (p := ⟨gb135, _, none⟩) NB130_135.out _).trans (((cell_far (p := ⟨gb135, _, none⟩) NB130_135.out _).trans (((cell_far (p := ⟨gb135, _, none⟩) NB130_135.out _).trans (((cell_far (p := ⟨gb135, _, none⟩) NB130_135.out _).trans (((cell_far (p := ⟨gb135, _, none⟩) NB130_135.out _).trans (((cell_far (p := ⟨gb135, _, none⟩) NB130_135.out _).trans (((cell_far (p := ⟨gb135, _, none⟩) NB130_135.out _).trans (((cell_far (p := ⟨gb135, _, none⟩) NB130_135.out _).trans (hHeld.2.2.2.2.2.2.2.2.2.1)))))))))))))))))))))), ((cell_far (p := ⟨gb135, _, none⟩) NB130_135.out _).trans (((cell_far (p := ⟨gb135, _, none⟩) NB130_135.out _).trans (((cell_far (p := ⟨gb135, _, none⟩) NB130_135.out _).trans (((cell_far (p := ⟨gb135, _, none⟩) NB130_135.out _).trans (((cell_far (p := ⟨gb135, _, none⟩) NB130_135.out _).trans (((cell_far (p := ⟨gb135, _, none⟩) NB130_135.out _).trans (((cell_far (p := ⟨gb135, _, none⟩) NB130_135.out _).trans (((cell_far (p := ⟨gb135, _, none⟩) NB130_135.out _).trans (((cell_far (p := ⟨gb135, _, none⟩) NB130_135.out _).trans (((cell_far (p := ⟨gb135, _, none⟩) NB130_135.out _).trans (((cell_far (p := ⟨gb135, _, none⟩) NB130_135.out _).trans (hHeld.2.2.2.2.2.2.2.2.2.2))))))))))))))))))))))⟩ (fun hHeld => ?_)
      clear hK K
      refine done_ (done_of HT_.out (by kernel_rfl)) ?_
      try go_wp2
      have n0_ : Aside0 ((((((((((((w14.setCell ⟨gb135, 0, none⟩ (.int .i64 t132)).setCell ⟨gb135, 1, none⟩ (.int .i64 t133)).setCell ⟨gb135, 2, none⟩ (.int .i64 0)).setCell ⟨gb135, 3, none⟩ (.int .i64 t134)).setCell ⟨gb135, 4, none⟩ (.int .i64 0)).setCell ⟨gb135, 5, none⟩ (.int .i64 0)).setCell ⟨gb135, 6, none⟩ (.int .i64 0)).setCell ⟨gb135, 7, none⟩ (.int .i64 0)).setCell ⟨gb135, 8, none⟩ (.int .i64 0)).setCell ⟨gb135, 9, none⟩ (.int .i64 0)).setCell ⟨gb135, 10, none⟩ (.int .i64 0)).heap[gb130]? = some (.cells #[.int .i64 a0_0, .int .i64 a0_1, .int .i64 a0_2, .int .i64 a0_3, .int .i64 a0_4, .int .i64 a0_5, .int .i64 a0_6, .int .i64 a0_7, .int .i64 a0_8, .int .i64 a0_9, .int .i64 a0_10] 35 (0, 0))) := ⟨by (with_reducible repeat (first | refine blk_drewN ?_ _ | refine blk_drew ?_ | refine blk_alloc ?_ _)); refine blk_far ?_ NB130_135.out _; (with_reducible repeat (first | refine blk_drewN ?_ _ | refine blk_drew ?_ | refine blk_alloc ?_ _)); refine blk_far ?_ NB130_135.out _; (with_reducible repeat (first | refine blk_drewN ?_ _ | refine blk_drew ?_ | refine blk_alloc ?_ _)); refine blk_far ?_ NB130_135.out _; (with_reducible repeat (first | refine blk_drewN ?_ _ | refine blk_drew ?_ | refine blk_alloc ?_ _)); refine blk_far ?_ NB130_135.out _; (with_reducible repeat (first | refine blk_drewN ?_ _ | refine blk_drew ?_ | refine blk_alloc ?_ _)); refine blk_far ?_ NB130_135.out _; (with_reducible repeat (first | refine blk_drewN ?_ _ | refine blk_drew ?_ | refine blk_alloc ?_ _)); refine blk_far ?_ NB130_135.out _; (with_reducible repeat (first | refine blk_drewN ?_ _ | refine blk_drew ?_ | refine blk_alloc ?_ _)); refine blk_far ?_ NB130_135.out _; (with_reducible repeat (first | refine blk_drewN ?_ _ | refine blk_drew ?_ | refine blk_alloc ?_ _)); refine blk_far ?_ NB130_135.out _; (with_reducible repeat (first | refine blk_drewN ?_ _ | refine blk_drew ?_ | refine blk_alloc ?_ _)); refine blk_far ?_ NB130_135.out _; (with_reducible repeat (first | refine blk_drewN ?_ _ | refine blk_drew ?_ | refine blk_alloc ?_ _)); refine blk_far ?_ NB130_135.out _; (with_reducible repeat (first | refine blk_drewN ?_ _ | refine blk_drew ?_ | refine blk_alloc ?_ _)); refine blk_far ?_ NB130_135.out _; (with_reducible repeat (first | refine blk_drewN ?_ _ | refine blk_drew ?_ | refine blk_alloc ?_ _)); exact BK130.out⟩
      have n1_ : Aside0 ((((((((((((w14.setCell ⟨gb135, 0, none⟩ (.int .i64 t132)).setCell ⟨gb135, 1, none⟩ (.int .i64 t133)).setCell ⟨gb135, 2, none⟩ (.int .i64 0)).setCell ⟨gb135, 3, none⟩ (.int .i64 t134)).setCell ⟨gb135, 4, none⟩ (.int .i64 0)).setCell ⟨gb135, 5, none⟩ (.int .i64 0)).setCell ⟨gb135, 6, none⟩ (.int .i64 0)).setCell ⟨gb135, 7, none⟩ (.int .i64 0)).setCell ⟨gb135, 8, none⟩ (.int .i64 0)).setCell ⟨gb135, 9, none⟩ (.int .i64 0)).setCell ⟨gb135, 10, none⟩ (.int .i64 0)).heap[gb131]? = some (.cells #[.int .i64 0, .int .i64 0, .int .i64 0, .int .i64 0, .int .i64 0, .int .i64 0, .int .i64 0, .int .i64 0, .int .i64 0, .int .i64 0, .int .i64 0] 35 (0, 0))) := ⟨by (with_reducible repeat (first | refine blk_drewN ?_ _ | refine blk_drew ?_ | refine blk_alloc ?_ _)); refine blk_far ?_ NB131_135.out _; (with_reducible repeat (first | refine blk_drewN ?_ _ | refine blk_drew ?_ | refine blk_alloc ?_ _)); refine blk_far ?_ NB131_135.out _; (with_reducible repeat (first | refine blk_drewN ?_ _ | refine blk_drew ?_ | refine blk_alloc ?_ _)); refine blk_far ?_ NB131_135.out _; (with_reducible repeat (first | refine blk_drewN ?_ _ | refine blk_drew ?_ | refine blk_alloc ?_ _)); refine blk_far ?_ NB131_135.out _; (with_reducible repeat (first | refine blk_drewN ?_ _ | refine blk_drew ?_ | refine blk_alloc ?_ _)); refine blk_far ?_ NB131_135.out _; (with_reducible repeat (first | refine blk_drewN ?_ _ | refine blk_drew ?_ | refine blk_alloc ?_ _)); refine blk_far ?_ NB131_135.out _; (with_reducible repeat (first | refine blk_drewN ?_ _ | refine blk_drew ?_ | refine blk_alloc ?_ _)); refine blk_far ?_ NB131_135.out _; (with_reducible repeat (first | refine blk_drewN ?_ _ | refine blk_drew ?_ | refine blk_alloc ?_ _)); refine blk_far ?_ NB131_135.out _; (with_reducible repeat (first | refine blk_drewN ?_ _ | refine blk_drew ?_ | refine blk_alloc ?_ _)); refine blk_far ?_ NB131_135.out _; (with_reducible repeat (first | refine blk_drewN ?_ _ | refine blk_drew ?_ | refine blk_alloc ?_ _)); refine blk_far ?_ NB131_135.out _; (with_reducible repeat (first | refine blk_drewN ?_ _ | refine blk_drew ?_ | refine blk_alloc ?_ _)); refine blk_far ?_ NB131_135.out _; (with_reducible repeat (first | refine blk_drewN ?_ _ | refine blk_drew ?_ | refine blk_alloc ?_ _)); exact BK131.out⟩
      have n2_ : Aside0 ((((((((((((w14.setCell ⟨gb135, 0, none⟩ (.int .i64 t132)).setCell ⟨gb135, 1, none⟩ (.int .i64 t133)).setCell ⟨gb135, 2, none⟩ (.int .i64 0)).setCell ⟨gb135, 3, none⟩ (.int .i64 t134)).setCell ⟨gb135, 4, none⟩ (.int .i64 0)).setCell ⟨gb135, 5, none⟩ (.int .i64 0)).setCell ⟨gb135, 6, none⟩ (.int .i64 0)).setCell ⟨gb135, 7, none⟩ (.int .i64 0)).setCell ⟨gb135, 8, none⟩ (.int .i64 0)).setCell ⟨gb135, 9, none⟩ (.int .i64 0)).setCell ⟨gb135, 10, none⟩ (.int .i64 0)).heap[gb135]? = some (.cells #[.int .i64 t132, .int .i64 t133, .int .i64 0, .int .i64 t134, .int .i64 0, .int .i64 0, .int .i64 0, .int .i64 0, .int .i64 0, .int .i64 0, .int .i64 0] 35 (0, 0))) := ⟨by (with_reducible repeat (first | refine blk_drewN ?_ _ | refine blk_drew ?_ | refine blk_alloc ?_ _)); refine blk_put (cs := #[.int .i64 t132, .int .i64 t133, .int .i64 0, .int .i64 t134, .int .i64 0, .int .i64 0, .int .i64 0, .int .i64 0, .int .i64 0, .int .i64 0, .int .i64 0]) ?_ 10 _ rfl; (with_reducible repeat (first | refine blk_drewN ?_ _ | refine blk_drew ?_ | refine blk_alloc ?_ _)); refine blk_put (cs := #[.int .i64 t132, .int .i64 t133, .int .i64 0, .int .i64 t134, .int .i64 0, .int .i64 0, .int .i64 0, .int .i64 0, .int .i64 0, .int .i64 0, .int .i64 0]) ?_ 9 _ rfl; (with_reducible repeat (first | refine blk_drewN ?_ _ | refine blk_drew ?_ | refine blk_alloc ?_ _)); refine blk_put (cs := #[.int .i64 t132, .int .i64 t133, .int .i64 0, .int .i64 t134, .int .i64 0, .int .i64 0, .int .i64 0, .int .i64 0, .int .i64 0, .int .i64 0, .int .i64 0]) ?_ 8 _ rfl; (with_reducible repeat (first | refine blk_drewN ?_ _ | refine blk_drew ?_ | refine blk_alloc ?_ _)); refine blk_put (cs := #[.int .i64 t132, .int .i64 t133, .int .i64 0, .int .i64 t134, .int .i64 0, .int .i64 0, .int .i64 0, .int .i64 0, .int .i64 0, .int .i64 0, .int .i64 0]) ?_ 7 _ rfl; (with_reducible repeat (first | refine blk_drewN ?_ _ | refine blk_drew ?_ | refine blk_alloc ?_ _)); refine blk_put (cs := #[.int .i64 t132, .int .i64 t133, .int .i64 0, .int .i64 t134, .int .i64 0, .int .i64 0, .int .i64 0, .int .i64 0, .int .i64 0, .int .i64 0, .int .i64 0]) ?_ 6 _ rfl; (with_reducible repeat (first | refine blk_drewN ?_ _ | refine blk_drew ?_ | refine blk_alloc ?_ _)); refine blk_put (cs := #[.int .i64 t132, .int .i64 t133, .int .i64 0, .int .i64 t134, .int .i64 0, .int .i64 0, .int .i64 0, .int .i64 0, .int .i64 0, .int .i64 0, .int .i64 0]) ?_ 5 _ rfl; (with_reducible repeat (first | refine blk_drewN ?_ _ | refine blk_drew ?_ | refine blk_alloc ?_ _)); refine blk_put (cs := #[.int .i64 t132, .int .i64 t133, .int .i64 0, .int .i64 t134, .int .i64 0, .int .i64 0, .int .i64 0, .int .i64 0, .int .i64 0, .int .i64 0, .int .i64 0]) ?_ 4 _ rfl; (with_reducible repeat (first | refine blk_drewN ?_ _ | refine blk_drew ?_ | refine blk_alloc ?_ _)); refine blk_put (cs := #[.int .i64 t132, .int .i64 t133, .int .i64 0, .int .i64 0, .int .i64 0, .int .i64 0, .int .i64 0, .int .i64 0, .int .i64 0, .int .i64 0, .int .i64 0]) ?_ 3 _ rfl; (with_reducible repeat (first | refine blk_drewN ?_ _ | refine blk_drew ?_ | refine blk_alloc ?_ _)); refine blk_put (cs := #[.int .i64 t132, .int .i64 t133, .int .i64 0, .int .i64 0, .int .i64 0, .int .i64 0, .int .i64 0, .int .i64 0, .int .i64 0, .int .i64 0, .int .i64 0]) ?_ 2 _ rfl; (with_reducible repeat (first | refine blk_drewN ?_ _ | refine blk_drew ?_ | refine blk_alloc ?_ _)); refine blk_put (cs := #[.int .i64 t132, .int .i64 0, .int .i64 0, .int .i64 0, .int .i64 0, .int .i64 0, .int .i64 0, .int .i64 0, .int .i64 0, .int .i64 0, .int .i64 0]) ?_ 1 _ rfl; (with_reducible repeat (first | refine blk_drewN ?_ _ | refine blk_drew ?_ | refine blk_alloc ?_ _)); refine blk_put (cs := #[.int .i64 0, .int .i64 0, .int .i64 0, .int .i64 0, .int .i64 0, .int .i64 0, .int .i64 0, .int .i64 0, .int .i64 0, .int .i64 0, .int .i64 0]) ?_ 0 _ rfl; (with_reducible repeat (first | refine blk_drewN ?_ _ | refine blk_drew ?_ | refine blk_alloc ?_ _)); exact BK135.out⟩
      have n3_ : Aside0 (Below w.heap.size w (((((((((((w14.setCell ⟨gb135, 0, none⟩ (.int .i64 t132)).setCell ⟨gb135, 1, none⟩ (.int .i64 t133)).setCell ⟨gb135, 2, none⟩ (.int .i64 0)).setCell ⟨gb135, 3, none⟩ (.int .i64 t134)).setCell ⟨gb135, 4, none⟩ (.int .i64 0)).setCell ⟨gb135, 5, none⟩ (.int .i64 0)).setCell ⟨gb135, 6, none⟩ (.int .i64 0)).setCell ⟨gb135, 7, none⟩ (.int .i64 0)).setCell ⟨gb135, 8, none⟩ (.int .i64 0)).setCell ⟨gb135, 9, none⟩ (.int .i64 0)).setCell ⟨gb135, 10, none⟩ (.int .i64 0))) := ⟨by repeat (first | (with_reducible first | exact HB.out | apply below_alloc | apply pw_below_drewN | apply below_drew1 | refine below_set ?_ GE130.out | refine below_set ?_ GE131.out | refine below_set ?_ GE135.out) | exact HB.out)⟩
      (try clear BK130)
      (try clear BK131)
      (try clear BK135)
      (try clear HB)
      generalize (((((((((((w14.setCell ⟨gb135, 0, none⟩ (.int .i64 t132)).setCell ⟨gb135, 1, none⟩ (.int .i64 t133)).setCell ⟨gb135, 2, none⟩ (.int .i64 0)).setCell ⟨gb135, 3, none⟩ (.int .i64 t134)).setCell ⟨gb135, 4, none⟩ (.int .i64 0)).setCell ⟨gb135, 5, none⟩ (.int .i64 0)).setCell ⟨gb135, 6, none⟩ (.int .i64 0)).setCell ⟨gb135, 7, none⟩ (.int .i64 0)).setCell ⟨gb135, 8, none⟩ (.int .i64 0)).setCell ⟨gb135, 9, none⟩ (.int .i64 0)).setCell ⟨gb135, 10, none⟩ (.int .i64 0)) = w26 at n0_ n1_ n2_ n3_ ⊢
      have BK130 := n0_
      have BK131 := n1_
      have BK135 := n2_
      have HB := n3_
      clear n0_ n1_ n2_ n3_
      have n0_ := Aside0.mk (blk_drew BK130.out)
      have n1_ := Aside0.mk (blk_drew BK131.out)
      have n2_ := Aside0.mk (blk_drew BK135.out)
      have n3_ := Aside0.mk (below_drew1 HB.out)
      clear BK130
      clear BK131
      clear BK135
      clear HB
      have BK130 := n0_
      have BK131 := n1_
      have BK135 := n2_
      have HB := n3_
      clear n0_ n1_ n2_ n3_
      refine start_ (n := 12) (S := fun w' => w'.cell? ⟨gb135, 0, none⟩ = some (.int .i64 t132) ∧ w'.cell? ⟨gb135, 1, none⟩ = some (.int .i64 t133) ∧ w'.cell? ⟨gb135, 2, none⟩ = some (.int .i64 0) ∧ w'.cell? ⟨gb135, 3, none⟩ = some (.int .i64 t134) ∧ w'.cell? ⟨gb135, 4, none⟩ = some (.int .i64 0) ∧ w'.cell? ⟨gb135, 5, none⟩ = some (.int .i64 0) ∧ w'.cell? ⟨gb135, 6, none⟩ = some (.int .i64 0) ∧ w'.cell? ⟨gb135, 7, none⟩ = some (.int .i64 0) ∧ w'.cell? ⟨gb135, 8, none⟩ = some (.int .i64 0) ∧ w'.cell? ⟨gb135, 9, none⟩ = some (.int .i64 0) ∧ w'.cell? ⟨gb135, 10, none⟩ = some (.int .i64 0) ∧ w'.cell? ⟨gb130, 0, none⟩ = some (.int .i64 a0_0) ∧ w'.cell? ⟨gb130, 1, none⟩ = some (.int .i64 a0_1) ∧ w'.cell? ⟨gb130, 2, none⟩ = some (.int .i64 a0_2) ∧ w'.cell? ⟨gb130, 3, none⟩ = some (.int .i64 a0_3) ∧ w'.cell? ⟨gb130, 4, none⟩ = some (.int .i64 a0_4) ∧ w'.cell? ⟨gb130, 5, none⟩ = some (.int .i64 a0_5) ∧ w'.cell? ⟨gb130, 6, none⟩ = some (.int .i64 a0_6) ∧ w'.cell? ⟨gb130, 7, none⟩ = some (.int .i64 a0_7) ∧ w'.cell? ⟨gb130, 8, none⟩ = some (.int .i64 a0_8) ∧ w'.cell? ⟨gb130, 9, none⟩ = some (.int .i64 a0_9) ∧ w'.cell? ⟨gb130, 10, none⟩ = some (.int .i64 a0_10)) (ds := [11]) #[false, false, false, false, false, false, false, false, false, false, false, false] (by kernel_rfl) rfl rfl ⟨(blk_cell BK135.out 0).trans rfl, (blk_cell BK135.out 1).trans rfl, (blk_cell BK135.out 2).trans rfl, (blk_cell BK135.out 3).trans rfl, (blk_cell BK135.out 4).trans rfl, (blk_cell BK135.out 5).trans rfl, (blk_cell BK135.out 6).trans rfl, (blk_cell BK135.out 7).trans rfl, (blk_cell BK135.out 8).trans rfl, (blk_cell BK135.out 9).trans rfl, (blk_cell BK135.out 10).trans rfl, (blk_cell BK130.out 0).trans rfl, (blk_cell BK130.out 1).trans rfl, (blk_cell BK130.out 2).trans rfl, (blk_cell BK130.out 3).trans rfl, (blk_cell BK130.out 4).trans rfl, (blk_cell BK130.out 5).trans rfl, (blk_cell BK130.out 6).trans rfl, (blk_cell BK130.out 7).trans rfl, (blk_cell BK130.out 8).trans rfl, (blk_cell BK130.out 9).trans rfl, (blk_cell BK130.out 10).trans rfl⟩ (fun hHeld => ?_); refine with_tabW empennageref04_channel.tab2 empennageref04_channel.bits2 (fun HT_ HW_ => ?_)
      generalize w26.drew = w27 at BK130 BK131 BK135 HB hHeld ⊢
      refine pure_ (i := 0) (N := some 17) (v := ?_) (a' := ?_) #[true, false, false, false, false, false, false, false, false, false, false, false] rfl rfl (any_of HT_.out (by kernel_rfl)) (fun _ _ _ h => h) (Or.inl ⟨by rfl, ?_⟩) ?_ ?_
      rotate_left
      · intro w'
        go_simp
        with_reducible rfl
      rotate_left
      · simp only [Act.put, List.setIfInBounds_toArray, List.set_cons_zero, List.set_cons_succ, i64_w, i32_w]
        rfl
      refine pure_ (i := 2) (N := some 19) (v := ?_) (a' := ?_) #[true, false, true, false, false, false, false, false, false, false, false, false] rfl rfl (any_of HT_.out (by kernel_rfl)) (fun _ _ _ h => h) (Or.inl ⟨by rfl, ?_⟩) ?_ ?_
      rotate_left
      · intro w'
        go_simp
        with_reducible rfl
      rotate_left
      · simp only [Act.put, List.setIfInBounds_toArray, List.set_cons_zero, List.set_cons_succ, i64_w, i32_w]
        rfl
      refine pure_ (i := 4) (N := some 21) (v := ?_) (a' := ?_) #[true, false, true, false, true, false, false, false, false, false, false, false] rfl rfl (any_of HT_.out (by kernel_rfl)) (fun _ _ _ h => h) (Or.inl ⟨by rfl, ?_⟩) ?_ ?_
      rotate_left
      · intro w'
        go_simp
        with_reducible rfl
      rotate_left
      · simp only [Act.put, List.setIfInBounds_toArray, List.set_cons_zero, List.set_cons_succ, i64_w, i32_w]
        rfl
      refine pure_ (i := 5) (N := some 22) (v := ?_) (a' := ?_) #[true, false, true, false, true, true, false, false, false, false, false, false] rfl rfl (any_of HT_.out (by kernel_rfl)) (fun _ _ _ h => h) (Or.inl ⟨by rfl, ?_⟩) ?_ ?_
      rotate_left
      · intro w'
        go_simp
        with_reducible rfl
      rotate_left
      · simp only [Act.put, List.setIfInBounds_toArray, List.set_cons_zero, List.set_cons_succ, i64_w, i32_w]
        rfl
      refine pure_ (i := 8) (N := some 25) (v := ?_) (a' := ?_) #[true, false, true, false, true, true, false, false, true, false, false, false] rfl rfl (any_of HT_.out (by kernel_rfl)) (fun _ _ _ h => h) (Or.inl ⟨by rfl, ?_⟩) ?_ ?_
      rotate_left
      · intro w'
        go_simp
        with_reducible rfl
      rotate_left
      · simp only [Act.put, List.setIfInBounds_toArray, List.set_cons_zero, List.set_cons_succ, i64_w, i32_w]
        rfl
      refine take_ (i := 1) (N := some 18) (v := ?_) (a' := ?_) #[true, true, true, false, true, true, false, false, true, false, false, false] rfl rfl (take_ofW HT_.out HW_.out (by kernel_rfl)) (fun _ _ _ h => h) (Or.inl ⟨by rfl, ?_⟩) hHeld ?_ ?_
      rotate_left
      · rintro w' ⟨s0, s1, s2, s3, s4, s5, s6, s7, s8, s9, s10, s11, s12, s13, s14, s15, s16, s17, s18, s19, s20, s21⟩
        go_simp
        with_reducible rfl
      rotate_left
      · simp only [Act.put, List.setIfInBounds_toArray, List.set_cons_zero, List.set_cons_succ, i64_w, i32_w]
        rfl
      refine take_ (i := 3) (N := some 20) (v := ?_) (a' := ?_) #[true, true, true, true, true, true, false, false, true, false, false, false] rfl rfl (take_ofW HT_.out HW_.out (by kernel_rfl)) (fun _ _ _ h => h) (Or.inl ⟨by rfl, ?_⟩) hHeld ?_ ?_
      rotate_left
      · rintro w' ⟨s0, s1, s2, s3, s4, s5, s6, s7, s8, s9, s10, s11, s12, s13, s14, s15, s16, s17, s18, s19, s20, s21⟩
        go_simp
        with_reducible rfl
      rotate_left
      · simp only [Act.put, List.setIfInBounds_toArray, List.set_cons_zero, List.set_cons_succ, i64_w, i32_w]
        rfl
      refine one_ (i := 6) (N := some 23) #[true, true, true, true, true, true, true, false, true, false, false, false] rfl rfl (one_of HT_.out (by kernel_rfl)) (by decide) (fun K hK => ?_)
      refine goes_ Tryd.func23 (by kernel_rfl) rfl #[.int .i64 a0_2, .int .i64 1, .int .i64 (wrap64 (a1 - 1))] (by rfl) rfl rfl (by (try simp only [List.map_toArray, List.map_cons, List.map_nil]); first | done | rfl | (simp only [List.length_drop, List.length_take]; rfl)) ?_
      with_reducible refine (empennageref04_near.calls a0_2 1 (wrap64 (a1 - 1)) t136 _ A6.out).mono ?_
      rintro e w' ⟨rfl, ⟨nd, rfl⟩⟩
      refine ⟨_, rfl, ?_⟩
      refine hK.out _ _ ⟨(blk_cell BK135.out 0).trans rfl, (blk_cell BK135.out 1).trans rfl, (blk_cell BK135.out 2).trans rfl, (blk_cell BK135.out 3).trans rfl, (blk_cell BK135.out 4).trans rfl, (blk_cell BK135.out 5).trans rfl, (blk_cell BK135.out 6).trans rfl, (blk_cell BK135.out 7).trans rfl, (blk_cell BK135.out 8).trans rfl, (blk_cell BK135.out 9).trans rfl, (blk_cell BK135.out 10).trans rfl, (blk_cell BK130.out 0).trans rfl, (blk_cell BK130.out 1).trans rfl, (blk_cell BK130.out 2).trans rfl, (blk_cell BK130.out 3).trans rfl, (blk_cell BK130.out 4).trans rfl, (blk_cell BK130.out 5).trans rfl, (blk_cell BK130.out 6).trans rfl, (blk_cell BK130.out 7).trans rfl, (blk_cell BK130.out 8).trans rfl, (blk_cell BK130.out 9).trans rfl, (blk_cell BK130.out 10).trans rfl⟩ (fun hHeld => ?_)
      clear hK K
      refine norm_ (a' := ?_) ?_ ?_
      rotate_left
      · show Act.put _ (some 23) _ = _
        simp only [Act.put, List.setIfInBounds_toArray, List.set_cons_zero, List.set_cons_succ, i64_w, i32_w]
        rfl
      refine pure_ (i := 7) (N := some 24) (v := ?_) (a' := ?_) #[true, true, true, true, true, true, true, true, true, false, false, false] rfl rfl (any_of HT_.out (by kernel_rfl)) (fun _ _ _ h => h) (Or.inl ⟨by rfl, ?_⟩) ?_ ?_
      rotate_left
      · intro w'
        go_simp
        with_reducible rfl
      rotate_left
      · simp only [Act.put, List.setIfInBounds_toArray, List.set_cons_zero, List.set_cons_succ, i64_w, i32_w]
        rfl
      refine pure_ (i := 9) (N := some 26) (v := ?_) (a' := ?_) #[true, true, true, true, true, true, true, true, true, true, false, false] rfl rfl (any_of HT_.out (by kernel_rfl)) (fun _ _ _ h => h) (Or.inl ⟨by rfl, ?_⟩) ?_ ?_
      rotate_left
      · intro w'
        go_simp
        with_reducible rfl
      rotate_left
      · simp only [Act.put, List.setIfInBounds_toArray, List.set_cons_zero, List.set_cons_succ, i64_w, i32_w]
        rfl
      refine pure_ (i := 10) (N := some 27) (v := ?_) (a' := ?_) #[true, true, true, true, true, true, true, true, true, true, true, false] rfl rfl (any_of HT_.out (by kernel_rfl)) (fun _ _ _ h => h) (Or.inl ⟨by rfl, ?_⟩) ?_ ?_
      rotate_left
      · intro w'
        go_simp
        with_reducible rfl
      rotate_left
      · simp only [Act.put, List.setIfInBounds_toArray, List.set_cons_zero, List.set_cons_succ, i64_w, i32_w]
        rfl
      refine last_ (i := 11) (N := none) #[true, true, true, true, true, true, true, true, true, true, true, true] rfl rfl (one_of HT_.out (by kernel_rfl)) (by decide) (fun K hK => ?_)
      have hs28 : w27.cell? ⟨gb135, 2, none⟩ = some (.int .i64 0) := (blk_cell BK135.out 2).trans rfl
      have hfs28 := blk_frozen BK135.out 2
      have hns28_0 := NB130_135.out
      have hns28_1 := NB131_135.out
      have hms28_0 := NB135_130.out
      have hms28_1 := NB135_131.out
      refine skip_ (w1 := ?_) (by rfl) rfl ?_ ?_
      rotate_left
      · go_simp
        rfl
      refine hK.out _ _ ?_
      clear hK K
      refine done_ (done_of HT_.out (by kernel_rfl)) ?_
      have hnb29 := NB135_130.out
      have hnc29 := NB130_135.out
      have hnb30 := NB135_131.out
      have hnc30 := NB131_135.out
      have hcz31_0 : w27.cell? ⟨gb135, 0, none⟩ = some (.int .i64 t132) := (blk_cell BK135.out 0).trans rfl
      have hcz31_1 : w27.cell? ⟨gb135, 1, none⟩ = some (.int .i64 t133) := (blk_cell BK135.out 1).trans rfl
      have hcz31_2 : w27.cell? ⟨gb135, 2, none⟩ = some (.int .i64 0) := (blk_cell BK135.out 2).trans rfl
      have hcz31_3 : w27.cell? ⟨gb135, 3, none⟩ = some (.int .i64 t134) := (blk_cell BK135.out 3).trans rfl
      have hcz31_4 : w27.cell? ⟨gb135, 4, none⟩ = some (.int .i64 0) := (blk_cell BK135.out 4).trans rfl
      have hcz31_5 : w27.cell? ⟨gb135, 5, none⟩ = some (.int .i64 0) := (blk_cell BK135.out 5).trans rfl
      have hcz31_6 : w27.cell? ⟨gb135, 6, none⟩ = some (.int .i64 0) := (blk_cell BK135.out 6).trans rfl
      have hcz31_7 : w27.cell? ⟨gb135, 7, none⟩ = some (.int .i64 0) := (blk_cell BK135.out 7).trans rfl
      have hcz31_8 : w27.cell? ⟨gb135, 8, none⟩ = some (.int .i64 0) := (blk_cell BK135.out 8).trans rfl
      have hcz31_9 : w27.cell? ⟨gb135, 9, none⟩ = some (.int .i64 0) := (blk_cell BK135.out 9).trans rfl
      have hcz31_10 : w27.cell? ⟨gb135, 10, none⟩ = some (.int .i64 0) := (blk_cell BK135.out 10).trans rfl
      have hfz31_0 := blk_frozen BK135.out 0
      have hfz31_1 := blk_frozen BK135.out 1
      have hfz31_2 := blk_frozen BK135.out 2
      have hfz31_3 := blk_frozen BK135.out 3
      have hfz31_4 := blk_frozen BK135.out 4
      have hfz31_5 := blk_frozen BK135.out 5
      have hfz31_6 := blk_frozen BK135.out 6
      have hfz31_7 := blk_frozen BK135.out 7
      have hfz31_8 := blk_frozen BK135.out 8
      have hfz31_9 := blk_frozen BK135.out 9
      have hfz31_10 := blk_frozen BK135.out 10
      have hnb32 := NB130_131.out
      have hnc32 := NB131_130.out
      have hcz33_0 : w27.cell? ⟨gb130, 0, none⟩ = some (.int .i64 a0_0) := (blk_cell BK130.out 0).trans rfl
      have hcz33_1 : w27.cell? ⟨gb130, 1, none⟩ = some (.int .i64 a0_1) := (blk_cell BK130.out 1).trans rfl
      have hcz33_2 : w27.cell? ⟨gb130, 2, none⟩ = some (.int .i64 a0_2) := (blk_cell BK130.out 2).trans rfl
      have hcz33_3 : w27.cell? ⟨gb130, 3, none⟩ = some (.int .i64 a0_3) := (blk_cell BK130.out 3).trans rfl
      have hcz33_4 : w27.cell? ⟨gb130, 4, none⟩ = some (.int .i64 a0_4) := (blk_cell BK130.out 4).trans rfl
      have hcz33_5 : w27.cell? ⟨gb130, 5, none⟩ = some (.int .i64 a0_5) := (blk_cell BK130.out 5).trans rfl
      have hcz33_6 : w27.cell? ⟨gb130, 6, none⟩ = some (.int .i64 a0_6) := (blk_cell BK130.out 6).trans rfl
      have hcz33_7 : w27.cell? ⟨gb130, 7, none⟩ = some (.int .i64 a0_7) := (blk_cell BK130.out 7).trans rfl
      have hcz33_8 : w27.cell? ⟨gb130, 8, none⟩ = some (.int .i64 a0_8) := (blk_cell BK130.out 8).trans rfl
      have hcz33_9 : w27.cell? ⟨gb130, 9, none⟩ = some (.int .i64 a0_9) := (blk_cell BK130.out 9).trans rfl
      have hcz33_10 : w27.cell? ⟨gb130, 10, none⟩ = some (.int .i64 a0_10) := (blk_cell BK130.out 10).trans rfl
      have hfz33_0 := blk_frozen BK130.out 0
      have hfz33_1 := blk_frozen BK130.out 1
      have hfz33_2 := blk_frozen BK130.out 2
      have hfz33_3 := blk_frozen BK130.out 3
      have hfz33_4 := blk_frozen BK130.out 4
      have hfz33_5 := blk_frozen BK130.out 5
      have hfz33_6 := blk_frozen BK130.out 6
      have hfz33_7 := blk_frozen BK130.out 7
      have hfz33_8 := blk_frozen BK130.out 8
      have hfz33_9 := blk_frozen BK130.out 9
      have hfz33_10 := blk_frozen BK130.out 10
      try go_wp2_with (first | ((with_reducible refine gate_callee (f := 23) rfl ?_); refine goesL_ (some 33) rfl rfl Tryd.func23 (by kernel_rfl) rfl #[.int .i64 a0_4, .int .i64 1, .int .i64 30] rfl (by (try simp only [List.map_toArray, List.map_cons, List.map_nil]); first | done | rfl | (simp only [List.length_drop, List.length_take]; rfl)) ?_; (with_reducible refine (empennageref04_near.calls a0_4 1 30 t137 _ A9.out).mono ?_); rintro e w' ⟨rfl, ⟨nd, rfl⟩⟩; refine ⟨_, rfl, ?_⟩; have hcz34_0 : w27.cell? ⟨gb131, 0, none⟩ = some (.int .i64 0) := (blk_cell BK131.out 0).trans rfl; have hcz34_1 : w27.cell? ⟨gb131, 1, none⟩ = some (.int .i64 0) := (blk_cell BK131.out 1).trans rfl; have hcz34_2 : w27.cell? ⟨gb131, 2, none⟩ = some (.int .i64 0) := (blk_cell BK131.out 2).trans rfl; have hcz34_3 : w27.cell? ⟨gb131, 3, none⟩ = some (.int .i64 0) := (blk_cell BK131.out 3).trans rfl; have hcz34_4 : w27.cell? ⟨gb131, 4, none⟩ = some (.int .i64 0) := (blk_cell BK131.out 4).trans rfl; have hcz34_5 : w27.cell? ⟨gb131, 5, none⟩ = some (.int .i64 0) := (blk_cell BK131.out 5).trans rfl; have hcz34_6 : w27.cell? ⟨gb131, 6, none⟩ = some (.int .i64 0) := (blk_cell BK131.out 6).trans rfl; have hcz34_7 : w27.cell? ⟨gb131, 7, none⟩ = some (.int .i64 0) := (blk_cell BK131.out 7).trans rfl; have hcz34_8 : w27.cell? ⟨gb131, 8, none⟩ = some (.int .i64 0) := (blk_cell BK131.out 8).trans rfl; have hcz34_9 : w27.cell? ⟨gb131, 9, none⟩ = some (.int .i64 0) := (blk_cell BK131.out 9).trans rfl; have hcz34_10 : w27.cell? ⟨gb131, 10, none⟩ = some (.int .i64 0) := (blk_cell BK131.out 10).trans rfl; have hfz34_0 := blk_frozen BK131.out 0; have hfz34_1 := blk_frozen BK131.out 1; have hfz34_2 := blk_frozen BK131.out 2; have hfz34_3 := blk_frozen BK131.out 3; have hfz34_4 := blk_frozen BK131.out 4; have hfz34_5 := blk_frozen BK131.out 5; have hfz34_6 := blk_frozen BK131.out 6; have hfz34_7 := blk_frozen BK131.out 7; have hfz34_8 := blk_frozen BK131.out 8; have hfz34_9 := blk_frozen BK131.out 9; have hfz34_10 := blk_frozen BK131.out 10))
      refine bodyPost_ret (results_cell_row rfl _ _ gb131 35 #[.int .i64 t132, .int .i64 t133, .int .i64 (Int.tmod (wrap64 (t133 + t136)) a1), .int .i64 t134, .int .i64 t137, .int .i64 0, .int .i64 0, .int .i64 0, .int .i64 0, .int .i64 0, .int .i64 0] (0, 0) _ rfl (by (with_reducible repeat (first | refine blk_drewN ?_ _ | refine blk_drew ?_ | refine blk_alloc ?_ _)); refine blk_put (cs := #[.int .i64 t132, .int .i64 t133, .int .i64 (Int.tmod (wrap64 (t133 + t136)) a1), .int .i64 t134, .int .i64 t137, .int .i64 0, .int .i64 0, .int .i64 0, .int .i64 0, .int .i64 0, .int .i64 0]) ?_ 10 _ rfl; (with_reducible repeat (first | refine blk_drewN ?_ _ | refine blk_drew ?_ | refine blk_alloc ?_ _)); refine blk_put (cs := #[.int .i64 t132, .int .i64 t133, .int .i64 (Int.tmod (wrap64 (t133 + t136)) a1), .int .i64 t134, .int .i64 t137, .int .i64 0, .int .i64 0, .int .i64 0, .int .i64 0, .int .i64 0, .int .i64 0]) ?_ 9 _ rfl; (with_reducible repeat (first | refine blk_drewN ?_ _ | refine blk_drew ?_ | refine blk_alloc ?_ _)); refine blk_put (cs := #[.int .i64 t132, .int .i64 t133, .int .i64 (Int.tmod (wrap64 (t133 + t136)) a1), .int .i64 t134, .int .i64 t137, .int .i64 0, .int .i64 0, .int .i64 0, .int .i64 0, .int .i64 0, .int .i64 0]) ?_ 8 _ rfl; (with_reducible repeat (first | refine blk_drewN ?_ _ | refine blk_drew ?_ | refine blk_alloc ?_ _)); refine blk_put (cs := #[.int .i64 t132, .int .i64 t133, .int .i64 (Int.tmod (wrap64 (t133 + t136)) a1), .int .i64 t134, .int .i64 t137, .int .i64 0, .int .i64 0, .int .i64 0, .int .i64 0, .int .i64 0, .int .i64 0]) ?_ 7 _ rfl; (with_reducible repeat (first | refine blk_drewN ?_ _ | refine blk_drew ?_ | refine blk_alloc ?_ _)); refine blk_put (cs := #[.int .i64 t132, .int .i64 t133, .int .i64 (Int.tmod (wrap64 (t133 + t136)) a1), .int .i64 t134, .int .i64 t137, .int .i64 0, .int .i64 0, .int .i64 0, .int .i64 0, .int .i64 0, .int .i64 0]) ?_ 6 _ rfl; (with_reducible repeat (first | refine blk_drewN ?_ _ | refine blk_drew ?_ | refine blk_alloc ?_ _)); refine blk_put (cs := #[.int .i64 t132, .int .i64 t133, .int .i64 (Int.tmod (wrap64 (t133 + t136)) a1), .int .i64 t134, .int .i64 t137, .int .i64 0, .int .i64 0, .int .i64 0, .int .i64 0, .int .i64 0, .int .i64 0]) ?_ 5 _ rfl; (with_reducible repeat (first | refine blk_drewN ?_ _ | refine blk_drew ?_ | refine blk_alloc ?_ _)); refine blk_put (cs := #[.int .i64 t132, .int .i64 t133, .int .i64 (Int.tmod (wrap64 (t133 + t136)) a1), .int .i64 t134, .int .i64 0, .int .i64 0, .int .i64 0, .int .i64 0, .int .i64 0, .int .i64 0, .int .i64 0]) ?_ 4 _ rfl; (with_reducible repeat (first | refine blk_drewN ?_ _ | refine blk_drew ?_ | refine blk_alloc ?_ _)); refine blk_put (cs := #[.int .i64 t132, .int .i64 t133, .int .i64 (Int.tmod (wrap64 (t133 + t136)) a1), .int .i64 0, .int .i64 0, .int .i64 0, .int .i64 0, .int .i64 0, .int .i64 0, .int .i64 0, .int .i64 0]) ?_ 3 _ rfl; (with_reducible repeat (first | refine blk_drewN ?_ _ | refine blk_drew ?_ | refine blk_alloc ?_ _)); refine blk_put (cs := #[.int .i64 t132, .int .i64 t133, .int .i64 0, .int .i64 0, .int .i64 0, .int .i64 0, .int .i64 0, .int .i64 0, .int .i64 0, .int .i64 0, .int .i64 0]) ?_ 2 _ rfl; (with_reducible repeat (first | refine blk_drewN ?_ _ | refine blk_drew ?_ | refine blk_alloc ?_ _)); refine blk_put (cs := #[.int .i64 t132, .int .i64 0, .int .i64 0, .int .i64 0, .int .i64 0, .int .i64 0, .int .i64 0, .int .i64 0, .int .i64 0, .int .i64 0, .int .i64 0]) ?_ 1 _ rfl; (with_reducible repeat (first | refine blk_drewN ?_ _ | refine blk_drew ?_ | refine blk_alloc ?_ _)); refine blk_put (cs := #[.int .i64 0, .int .i64 0, .int .i64 0, .int .i64 0, .int .i64 0, .int .i64 0, .int .i64 0, .int .i64 0, .int .i64 0, .int .i64 0, .int .i64 0]) ?_ 0 _ rfl; (with_reducible repeat (first | refine blk_drewN ?_ _ | refine blk_drew ?_ | refine blk_alloc ?_ _)); refine blk_far ?_ NB131_135.out _; (with_reducible repeat (first | refine blk_drewN ?_ _ | refine blk_drew ?_ | refine blk_alloc ?_ _)); refine blk_far ?_ NB131_135.out _; (with_reducible repeat (first | refine blk_drewN ?_ _ | refine blk_drew ?_ | refine blk_alloc ?_ _)); exact BK131.out) Tryd.underlying35 rfl (by kernel_rfl)) rfl ?_
      exact ⟨by first | rfl | (simp [errW_none, errW_some] <;> rfl) | (simp [*, errW_none, errW_some] <;> rfl), by repeat (first | (with_reducible first | exact HB.out | apply below_alloc | apply pw_below_drewN | apply below_drew1 | refine below_set ?_ GE130.out | refine below_set ?_ GE131.out | refine below_set ?_ GE135.out) | exact HB.out)⟩
    · rw [if_neg c8] at H
      have c8b0 : (t132 == 0) = false := beq_eq_false_iff_ne.mpr c8
      have c8b1 : (t132 != 0) = true := bne_iff_ne.mpr c8
      replace H := Option.bind_eq_some_iff.mp H
      obtain ⟨t138, A350, H⟩ := H
      replace H : ((empennageref04_near.f a0_6 1 4).bind fun t139 => ((empennageref04_near.f a0_7 1 4).bind fun t140 => ((empennageref04_near.f a0_8 1 60).bind fun t141 => ((empennageref04_near.f a0_9 0 5).bind fun t142 => ((empennageref04_near.f a0_10 1 6).bind fun t143 => (some (t132, t133, Int.tmod (wrap64 (t133 + t136)) a1, t134, 0, t138, t139, t140, t141, t142, t143))))))) = some (r1, r2, r3, r4, r5, r6, r7, r8, r9, r10, r11) := H
      have A35 := Aside0.mk A350
      clear A350
      replace H := Option.bind_eq_some_iff.mp H
      obtain ⟨t139, A360, H⟩ := H
      replace H : ((empennageref04_near.f a0_7 1 4).bind fun t140 => ((empennageref04_near.f a0_8 1 60).bind fun t141 => ((empennageref04_near.f a0_9 0 5).bind fun t142 => ((empennageref04_near.f a0_10 1 6).bind fun t143 => (some (t132, t133, Int.tmod (wrap64 (t133 + t136)) a1, t134, 0, t138, t139, t140, t141, t142, t143)))))) = some (r1, r2, r3, r4, r5, r6, r7, r8, r9, r10, r11) := H
      have A36 := Aside0.mk A360
      clear A360
      replace H := Option.bind_eq_some_iff.mp H
      obtain ⟨t140, A370, H⟩ := H
      replace H : ((empennageref04_near.f a0_8 1 60).bind fun t141 => ((empennageref04_near.f a0_9 0 5).bind fun t142 => ((empennageref04_near.f a0_10 1 6).bind fun t143 => (some (t132, t133, Int.tmod (wrap64 (t133 + t136)) a1, t134, 0, t138, t139, t140, t141, t142, t143))))) = some (r1, r2, r3, r4, r5, r6, r7, r8, r9, r10, r11) := H
      have A37 := Aside0.mk A370
      clear A370
      replace H := Option.bind_eq_some_iff.mp H
      obtain ⟨t141, A380, H⟩ := H
      replace H : ((empennageref04_near.f a0_9 0 5).bind fun t142 => ((empennageref04_near.f a0_10 1 6).bind fun t143 => (some (t132, t133, Int.tmod (wrap64 (t133 + t136)) a1, t134, 0, t138, t139, t140, t141, t142, t143)))) = some (r1, r2, r3, r4, r5, r6, r7, r8, r9, r10, r11) := H
      have A38 := Aside0.mk A380
      clear A380
      replace H := Option.bind_eq_some_iff.mp H
      obtain ⟨t142, A390, H⟩ := H
      replace H : ((empennageref04_near.f a0_10 1 6).bind fun t143 => (some (t132, t133, Int.tmod (wrap64 (t133 + t136)) a1, t134, 0, t138, t139, t140, t141, t142, t143))) = some (r1, r2, r3, r4, r5, r6, r7, r8, r9, r10, r11) := H
      have A39 := Aside0.mk A390
      clear A390
      replace H := Option.bind_eq_some_iff.mp H
      obtain ⟨t143, A400, H⟩ := H
      replace H : (some (t132, t133, Int.tmod (wrap64 (t133 + t136)) a1, t134, 0, t138, t139, t140, t141, t142, t143)) = some (r1, r2, r3, r4, r5, r6, r7, r8, r9, r10, r11) := H
      have A40 := Aside0.mk A400
      clear A400
      simp only [Option.some.injEq, Prod.mk.injEq] at H
      obtain ⟨rfl, rfl, rfl, rfl, rfl, rfl, rfl, rfl, rfl, rfl, rfl⟩ := H
      go_enter Tryd.func24, Tryd.ntmps24
      try go_wp2_with (first | ((with_reducible refine gate_dst (N := 2) rfl ?_); refine box_event ?hg (N := 2) ?hd (cs := #[.int .i64 a0_0, .int .i64 a0_1, .int .i64 a0_2, .int .i64 a0_3, .int .i64 a0_4, .int .i64 a0_5, .int .i64 a0_6, .int .i64 a0_7, .int .i64 a0_8, .int .i64 a0_9, .int .i64 a0_10]) (t := 35) ?hr ?_; (case hd => rfl); (case hg => rfl); (case hr => first | (go_simp; done) | (go_simp; rfl)); intro gb130 hg w41 hbox hb; have n0_ := Aside0.mk (below_step (by repeat (first | (with_reducible first | exact HB.out | apply below_alloc | apply pw_below_drewN | apply below_drew1) | exact HB.out)) hb); have n1_ := Aside0.mk (hbox); have n2_ := Aside0.mk ((by rw [hg]; exact (below_size (by repeat (first | (with_reducible first | exact HB.out | apply below_alloc | apply pw_below_drewN | apply below_drew1) | exact HB.out))) : w.heap.size ≤ gb130)); have n3_ := Aside0.mk ((by rw [hg]; exact (below_size (by repeat (first | (with_reducible first | exact HB.out | apply below_alloc | apply pw_below_drewN | apply below_drew1) | exact HB.out))) : w.heap.size ≤ gb130)); clear HB; have HB := n0_; have BK130 := n1_; have GW130 := n2_; have GE130 := n3_; clear n0_ n1_ n2_ n3_; clear hb hbox hg) | ((with_reducible refine gate_dst (N := 4) rfl ?_); refine box_event ?hg (N := 4) ?hd (cs := #[.int .i64 0, .int .i64 0, .int .i64 0, .int .i64 0, .int .i64 0, .int .i64 0, .int .i64 0, .int .i64 0, .int .i64 0, .int .i64 0, .int .i64 0]) (t := 35) ?hr ?_; (case hd => rfl); (case hg => rfl); (case hr => first | (go_simp; done) | (go_simp; rfl)); intro gb131 hg w42 hbox hb; have n0_ := Aside0.mk (blk_below (g := gb130) (o := .cells #[.int .i64 a0_0, .int .i64 a0_1, .int .i64 a0_2, .int .i64 a0_3, .int .i64 a0_4, .int .i64 a0_5, .int .i64 a0_6, .int .i64 a0_7, .int .i64 a0_8, .int .i64 a0_9, .int .i64 a0_10] 35 (0, 0)) (by (with_reducible repeat (first | refine blk_drewN ?_ _ | refine blk_drew ?_ | refine blk_alloc ?_ _)); exact BK130.out) hb); have n1_ := Aside0.mk (below_step (by repeat (first | (with_reducible first | exact HB.out | apply below_alloc | apply pw_below_drewN | apply below_drew1 | refine below_set ?_ GE130.out) | exact HB.out)) hb); have n2_ := Aside0.mk (hbox); have n3_ := Aside0.mk ((by rw [hg]; exact (below_size (by repeat (first | (with_reducible first | exact HB.out | apply below_alloc | apply pw_below_drewN | apply below_drew1 | refine below_set ?_ GE130.out) | exact HB.out))) : w.heap.size ≤ gb131)); have n4_ := Aside0.mk ((by rw [hg]; exact (below_size (by repeat (first | (with_reducible first | exact HB.out | apply below_alloc | apply pw_below_drewN | apply below_drew1 | refine below_set ?_ GE130.out) | exact HB.out))) : w.heap.size ≤ gb131)); have n5_ := Aside0.mk ((by rw [hg]; exact Nat.ne_of_lt (blk_lt (g := gb130) (o := .cells #[.int .i64 a0_0, .int .i64 a0_1, .int .i64 a0_2, .int .i64 a0_3, .int .i64 a0_4, .int .i64 a0_5, .int .i64 a0_6, .int .i64 a0_7, .int .i64 a0_8, .int .i64 a0_9, .int .i64 a0_10] 35 (0, 0)) (by (with_reducible repeat (first | refine blk_drewN ?_ _ | refine blk_drew ?_ | refine blk_alloc ?_ _)); exact BK130.out)) : gb130 ≠ gb131)); have n6_ := Aside0.mk ((by rw [hg]; exact Nat.ne_of_gt (blk_lt (g := gb130) (o := .cells #[.int .i64 a0_0, .int .i64 a0_1, .int .i64 a0_2, .int .i64 a0_3, .int .i64 a0_4, .int .i64 a0_5, .int .i64 a0_6, .int .i64 a0_7, .int .i64 a0_8, .int .i64 a0_9, .int .i64 a0_10] 35 (0, 0)) (by (with_reducible repeat (first | refine blk_drewN ?_ _ | refine blk_drew ?_ | refine blk_alloc ?_ _)); exact BK130.out)) : gb131 ≠ gb130)); clear BK130; clear HB; have BK130 := n0_; have HB := n1_; have BK131 := n2_; have GW131 := n3_; have GE131 := n4_; have NB130_131 := n5_; have NB131_130 := n6_; clear n0_ n1_ n2_ n3_ n4_ n5_ n6_; clear hb hbox hg))
      have n0_ := Aside0.mk (blk_drew BK130.out)
      have n1_ := Aside0.mk (blk_drew BK131.out)
      have n2_ := Aside0.mk (below_drew1 HB.out)
      clear BK130
      clear BK131
      clear HB
      have BK130 := n0_
      have BK131 := n1_
      have HB := n2_
      clear n0_ n1_ n2_
      refine start_ (n := 13) (S := fun w' => w'.cell? ⟨gb130, 0, none⟩ = some (.int .i64 a0_0) ∧ w'.cell? ⟨gb130, 1, none⟩ = some (.int .i64 a0_1) ∧ w'.cell? ⟨gb130, 2, none⟩ = some (.int .i64 a0_2) ∧ w'.cell? ⟨gb130, 3, none⟩ = some (.int .i64 a0_3) ∧ w'.cell? ⟨gb130, 4, none⟩ = some (.int .i64 a0_4) ∧ w'.cell? ⟨gb130, 5, none⟩ = some (.int .i64 a0_5) ∧ w'.cell? ⟨gb130, 6, none⟩ = some (.int .i64 a0_6) ∧ w'.cell? ⟨gb130, 7, none⟩ = some (.int .i64 a0_7) ∧ w'.cell? ⟨gb130, 8, none⟩ = some (.int .i64 a0_8) ∧ w'.cell? ⟨gb130, 9, none⟩ = some (.int .i64 a0_9) ∧ w'.cell? ⟨gb130, 10, none⟩ = some (.int .i64 a0_10)) (ds := []) #[false, false, false, false, false, false, false, false, false, false, false, false, false] (by kernel_rfl) rfl rfl ⟨(blk_cell BK130.out 0).trans rfl, (blk_cell BK130.out 1).trans rfl, (blk_cell BK130.out 2).trans rfl, (blk_cell BK130.out 3).trans rfl, (blk_cell BK130.out 4).trans rfl, (blk_cell BK130.out 5).trans rfl, (blk_cell BK130.out 6).trans rfl, (blk_cell BK130.out 7).trans rfl, (blk_cell BK130.out 8).trans rfl, (blk_cell BK130.out 9).trans rfl, (blk_cell BK130.out 10).trans rfl⟩ (fun hHeld => ?_); refine with_tabW empennageref04_channel.tab1 empennageref04_channel.bits1 (fun HT_ HW_ => ?_)
      generalize w42.drew = w43 at BK130 BK131 HB hHeld ⊢
      refine pure_ (i := 0) (N := some 6) (v := ?_) (a' := ?_) #[true, false, false, false, false, false, false, false, false, false, false, false, false] rfl rfl (any_of HT_.out (by kernel_rfl)) (fun _ _ _ h => h) (Or.inl ⟨by rfl, ?_⟩) ?_ ?_
      rotate_left
      · intro w'
        go_simp
        with_reducible rfl
      rotate_left
      · simp only [Act.put, List.setIfInBounds_toArray, List.set_cons_zero, List.set_cons_succ, i64_w, i32_w]
        rfl
      refine pure_ (i := 3) (N := some 9) (v := ?_) (a' := ?_) #[true, false, false, true, false, false, false, false, false, false, false, false, false] rfl rfl (any_of HT_.out (by kernel_rfl)) (fun _ _ _ h => h) (Or.inl ⟨by rfl, ?_⟩) ?_ ?_
      rotate_left
      · intro w'
        go_simp
        with_reducible rfl
      rotate_left
      · simp only [Act.put, List.setIfInBounds_toArray, List.set_cons_zero, List.set_cons_succ, i64_w, i32_w]
        rfl
      refine pure_ (i := 5) (N := some 11) (v := ?_) (a' := ?_) #[true, false, false, true, false, true, false, false, false, false, false, false, false] rfl rfl (any_of HT_.out (by kernel_rfl)) (fun _ _ _ h => h) (Or.inl ⟨by rfl, ?_⟩) ?_ ?_
      rotate_left
      · intro w'
        go_simp
        with_reducible rfl
      rotate_left
      · simp only [Act.put, List.setIfInBounds_toArray, List.set_cons_zero, List.set_cons_succ, i64_w, i32_w]
        rfl
      refine pure_ (i := 7) (N := some 13) (v := ?_) (a' := ?_) #[true, false, false, true, false, true, false, true, false, false, false, false, false] rfl rfl (any_of HT_.out (by kernel_rfl)) (fun _ _ _ h => h) (Or.inl ⟨by rfl, ?_⟩) ?_ ?_
      rotate_left
      · intro w'
        go_simp
        with_reducible rfl
      rotate_left
      · simp only [Act.put, List.setIfInBounds_toArray, List.set_cons_zero, List.set_cons_succ, i64_w, i32_w]
        rfl
      refine take_ (i := 1) (N := some 7) (v := ?_) (a' := ?_) #[true, true, false, true, false, true, false, true, false, false, false, false, false] rfl rfl (take_ofW HT_.out HW_.out (by kernel_rfl)) (fun _ _ _ h => h) (Or.inl ⟨by rfl, ?_⟩) hHeld ?_ ?_
      rotate_left
      · rintro w' ⟨s0, s1, s2, s3, s4, s5, s6, s7, s8, s9, s10⟩
        go_simp
        with_reducible rfl
      rotate_left
      · simp only [Act.put, List.setIfInBounds_toArray, List.set_cons_zero, List.set_cons_succ, i64_w, i32_w]
        rfl
      refine take_ (i := 4) (N := some 10) (v := ?_) (a' := ?_) #[true, true, false, true, true, true, false, true, false, false, false, false, false] rfl rfl (take_ofW HT_.out HW_.out (by kernel_rfl)) (fun _ _ _ h => h) (Or.inl ⟨by rfl, ?_⟩) hHeld ?_ ?_
      rotate_left
      · rintro w' ⟨s0, s1, s2, s3, s4, s5, s6, s7, s8, s9, s10⟩
        go_simp
        with_reducible rfl
      rotate_left
      · simp only [Act.put, List.setIfInBounds_toArray, List.set_cons_zero, List.set_cons_succ, i64_w, i32_w]
        rfl
      refine take_ (i := 8) (N := some 14) (v := ?_) (a' := ?_) #[true, true, false, true, true, true, false, true, true, false, false, false, false] rfl rfl (take_ofW HT_.out HW_.out (by kernel_rfl)) (fun _ _ _ h => h) (Or.inl ⟨by rfl, ?_⟩) hHeld ?_ ?_
      rotate_left
      · rintro w' ⟨s0, s1, s2, s3, s4, s5, s6, s7, s8, s9, s10⟩
        go_simp
        with_reducible rfl
      rotate_left
      · simp only [Act.put, List.setIfInBounds_toArray, List.set_cons_zero, List.set_cons_succ, i64_w, i32_w]
        rfl
      refine join_ (σ := Nat) 1 #[true, true, true, true, true, true, true, true, true, true, true, true, false] (fun s_ => [(8, .int .i64 t132), (12, .int .i64 t133), (15, .int .i64 t134), (5, .pointer (some ⟨s_, 0, none⟩)), (16, .agg #[.int .i64 t132, .int .i64 t133, .int .i64 0, .int .i64 t134, .int .i64 0, .int .i64 0, .int .i64 0, .int .i64 0, .int .i64 0, .int .i64 0, .int .i64 0])]) (fun s_ w' => (w'.cell? ⟨gb130, 0, none⟩ = some (.int .i64 a0_0) ∧ w'.cell? ⟨gb130, 1, none⟩ = some (.int .i64 a0_1) ∧ w'.cell? ⟨gb130, 2, none⟩ = some (.int .i64 a0_2) ∧ w'.cell? ⟨gb130, 3, none⟩ = some (.int .i64 a0_3) ∧ w'.cell? ⟨gb130, 4, none⟩ = some (.int .i64 a0_4) ∧ w'.cell? ⟨gb130, 5, none⟩ = some (.int .i64 a0_5) ∧ w'.cell? ⟨gb130, 6, none⟩ = some (.int .i64 a0_6) ∧ w'.cell? ⟨gb130, 7, none⟩ = some (.int .i64 a0_7) ∧ w'.cell? ⟨gb130, 8, none⟩ = some (.int .i64 a0_8) ∧ w'.cell? ⟨gb130, 9, none⟩ = some (.int .i64 a0_9) ∧ w'.cell? ⟨gb130, 10, none⟩ = some (.int .i64 a0_10)) ∧ (w'.heap[gb130]? = some (.cells #[.int .i64 a0_0, .int .i64 a0_1, .int .i64 a0_2, .int .i64 a0_3, .int .i64 a0_4, .int .i64 a0_5, .int .i64 a0_6, .int .i64 a0_7, .int .i64 a0_8, .int .i64 a0_9, .int .i64 a0_10] 35 (0, 0))) ∧ (w'.heap[gb131]? = some (.cells #[.int .i64 0, .int .i64 0, .int .i64 0, .int .i64 0, .int .i64 0, .int .i64 0, .int .i64 0, .int .i64 0, .int .i64 0, .int .i64 0, .int .i64 0] 35 (0, 0))) ∧ (w'.heap[s_]? = some (.cells #[.int .i64 0, .int .i64 0, .int .i64 0, .int .i64 0, .int .i64 0, .int .i64 0, .int .i64 0, .int .i64 0, .int .i64 0, .int .i64 0, .int .i64 0] 35 (0, 0))) ∧ (w.heap.size ≤ s_) ∧ (w.heap.size ≤ s_) ∧ (gb130 ≠ s_) ∧ (s_ ≠ gb130) ∧ (gb131 ≠ s_) ∧ (s_ ≠ gb131) ∧ (Below w.heap.size w w')) ?_ ?_
      rotate_left
      · intro hCont
        refine two_ (i := 2) (j := 11) (Ni := some 8) (Nj := some 5) #[true, true, true, true, true, true, false, true, true, false, false, false, false] #[true, true, false, true, true, true, false, true, true, false, false, true, false] rfl rfl rfl rfl (two_of HT_.out (by kernel_rfl)) (by decide) (by decide) (fun K hK => ?_) (fun K hK => ?_)
        · skip
          refine goes_ Tryd.func23 (by kernel_rfl) rfl #[.int .i64 a0_0, .int .i64 0, .int .i64 2] (by rfl) rfl rfl (by (try simp only [List.map_toArray, List.map_cons, List.map_nil]); first | done | rfl | (simp only [List.length_drop, List.length_take]; rfl)) ?_
          with_reducible refine (empennageref04_near.calls a0_0 0 2 t132 _ A3.out).mono ?_
          rintro e w' ⟨rfl, ⟨nd, rfl⟩⟩
          refine ⟨_, rfl, ?_⟩
          refine hK.out _ _ ⟨(blk_cell BK130.out 0).trans rfl, (blk_cell BK130.out 1).trans rfl, (blk_cell BK130.out 2).trans rfl, (blk_cell BK130.out 3).trans rfl, (blk_cell BK130.out 4).trans rfl, (blk_cell BK130.out 5).trans rfl, (blk_cell BK130.out 6).trans rfl, (blk_cell BK130.out 7).trans rfl, (blk_cell BK130.out 8).trans rfl, (blk_cell BK130.out 9).trans rfl, (blk_cell BK130.out 10).trans rfl⟩ (fun hHeld => ?_)
          clear hK K
          refine norm_ (a' := ?_) ?_ ?_
          rotate_left
          · show Act.put _ (some 8) _ = _
            simp only [Act.put, List.setIfInBounds_toArray, List.set_cons_zero, List.set_cons_succ, i64_w, i32_w]
            rfl
          refine two_ (i := 6) (j := 11) (Ni := some 12) (Nj := some 5) #[true, true, true, true, true, true, true, true, true, false, false, false, false] #[true, true, true, true, true, true, false, true, true, false, false, true, false] rfl rfl rfl rfl (two_of HT_.out (by kernel_rfl)) (by decide) (by decide) (fun K hK => ?_) (fun K hK => ?_)
          · skip
            refine goes_ Tryd.func23 (by kernel_rfl) rfl #[.int .i64 a0_1, .int .i64 0, .int .i64 a1] (by rfl) rfl rfl (by (try simp only [List.map_toArray, List.map_cons, List.map_nil]); first | done | rfl | (simp only [List.length_drop, List.length_take]; rfl)) ?_
            with_reducible refine (empennageref04_near.calls a0_1 0 a1 t133 _ A4.out).mono ?_
            rintro e w' ⟨rfl, ⟨nd, rfl⟩⟩
            refine ⟨_, rfl, ?_⟩
            refine hK.out _ _ ⟨(blk_cell BK130.out 0).trans rfl, (blk_cell BK130.out 1).trans rfl, (blk_cell BK130.out 2).trans rfl, (blk_cell BK130.out 3).trans rfl, (blk_cell BK130.out 4).trans rfl, (blk_cell BK130.out 5).trans rfl, (blk_cell BK130.out 6).trans rfl, (blk_cell BK130.out 7).trans rfl, (blk_cell BK130.out 8).trans rfl, (blk_cell BK130.out 9).trans rfl, (blk_cell BK130.out 10).trans rfl⟩ (fun hHeld => ?_)
            clear hK K
            refine norm_ (a' := ?_) ?_ ?_
            rotate_left
            · show Act.put _ (some 12) _ = _
              simp only [Act.put, List.setIfInBounds_toArray, List.set_cons_zero, List.set_cons_succ, i64_w, i32_w]
              rfl
            refine two_ (i := 9) (j := 11) (Ni := some 15) (Nj := some 5) #[true, true, true, true, true, true, true, true, true, true, false, false, false] #[true, true, true, true, true, true, true, true, true, false, false, true, false] rfl rfl rfl rfl (two_of HT_.out (by kernel_rfl)) (by decide) (by decide) (fun K hK => ?_) (fun K hK => ?_)
            · skip
              refine goes_ Tryd.func23 (by kernel_rfl) rfl #[.int .i64 a0_3, .int .i64 1, .int .i64 4] (by rfl) rfl rfl (by (try simp only [List.map_toArray, List.map_cons, List.map_nil]); first | done | rfl | (simp only [List.length_drop, List.length_take]; rfl)) ?_
              with_reducible refine (empennageref04_near.calls a0_3 1 4 t134 _ A5.out).mono ?_
              rintro e w' ⟨rfl, ⟨nd, rfl⟩⟩
              refine ⟨_, rfl, ?_⟩
              refine hK.out _ _ ⟨(blk_cell BK130.out 0).trans rfl, (blk_cell BK130.out 1).trans rfl, (blk_cell BK130.out 2).trans rfl, (blk_cell BK130.out 3).trans rfl, (blk_cell BK130.out 4).trans rfl, (blk_cell BK130.out 5).trans rfl, (blk_cell BK130.out 6).trans rfl, (blk_cell BK130.out 7).trans rfl, (blk_cell BK130.out 8).trans rfl, (blk_cell BK130.out 9).trans rfl, (blk_cell BK130.out 10).trans rfl⟩ (fun hHeld => ?_)
              clear hK K
              refine norm_ (a' := ?_) ?_ ?_
              rotate_left
              · show Act.put _ (some 15) _ = _
                simp only [Act.put, List.setIfInBounds_toArray, List.set_cons_zero, List.set_cons_succ, i64_w, i32_w]
                rfl
              refine pure_ (i := 10) (N := some 16) (v := ?_) (a' := ?_) #[true, true, true, true, true, true, true, true, true, true, true, false, false] rfl rfl (any_of HT_.out (by kernel_rfl)) (fun _ _ _ h => h) (Or.inl ⟨by rfl, ?_⟩) ?_ ?_
              rotate_left
              · intro w'
                go_simp
                with_reducible rfl
              rotate_left
              · simp only [Act.put, List.setIfInBounds_toArray, List.set_cons_zero, List.set_cons_succ, i64_w, i32_w]
                rfl
              refine one_ (i := 11) (N := some 5) #[true, true, true, true, true, true, true, true, true, true, true, true, false] rfl rfl (one_of HT_.out (by kernel_rfl)) (by decide) (fun K hK => ?_)
              refine box_step ?hg (N := 5) ?hd (cs := #[.int .i64 0, .int .i64 0, .int .i64 0, .int .i64 0, .int .i64 0, .int .i64 0, .int .i64 0, .int .i64 0, .int .i64 0, .int .i64 0, .int .i64 0]) (t := 35) ?hr ?_; (case hd => rfl); (case hg => rfl); (case hr => first | (go_simp; done) | (go_simp; rfl))
              intro gb135 hg w44 hbox hb
              have n0_ := Aside0.mk (blk_below (g := gb130) (o := .cells #[.int .i64 a0_0, .int .i64 a0_1, .int .i64 a0_2, .int .i64 a0_3, .int .i64 a0_4, .int .i64 a0_5, .int .i64 a0_6, .int .i64 a0_7, .int .i64 a0_8, .int .i64 a0_9, .int .i64 a0_10] 35 (0, 0)) (by (with_reducible repeat (first | refine blk_drewN ?_ _ | refine blk_drew ?_ | refine blk_alloc ?_ _)); exact BK130.out) hb)
              have n1_ := Aside0.mk (blk_below (g := gb131) (o := .cells #[.int .i64 0, .int .i64 0, .int .i64 0, .int .i64 0, .int .i64 0, .int .i64 0, .int .i64 0, .int .i64 0, .int .i64 0, .int .i64 0, .int .i64 0] 35 (0, 0)) (by (with_reducible repeat (first | refine blk_drewN ?_ _ | refine blk_drew ?_ | refine blk_alloc ?_ _)); exact BK131.out) hb)
              have n2_ := Aside0.mk (below_step (by repeat (first | (with_reducible first | exact HB.out | apply below_alloc | apply pw_below_drewN | apply below_drew1 | refine below_set ?_ GE130.out | refine below_set ?_ GE131.out) | exact HB.out)) hb)
              have n3_ := Aside0.mk (hbox)
              have n4_ := Aside0.mk ((by rw [hg]; exact (below_size (by repeat (first | (with_reducible first | exact HB.out | apply below_alloc | apply pw_below_drewN | apply below_drew1 | refine below_set ?_ GE130.out | refine below_set ?_ GE131.out) | exact HB.out))) : w.heap.size ≤ gb135))
              have n5_ := Aside0.mk ((by rw [hg]; exact (below_size (by repeat (first | (with_reducible first | exact HB.out | apply below_alloc | apply pw_below_drewN | apply below_drew1 | refine below_set ?_ GE130.out | refine below_set ?_ GE131.out) | exact HB.out))) : w.heap.size ≤ gb135))
              have n6_ := Aside0.mk ((by rw [hg]; exact Nat.ne_of_lt (blk_lt (g := gb130) (o := .cells #[.int .i64 a0_0, .int .i64 a0_1, .int .i64 a0_2, .int .i64 a0_3, .int .i64 a0_4, .int .i64 a0_5, .int .i64 a0_6, .int .i64 a0_7, .int .i64 a0_8, .int .i64 a0_9, .int .i64 a0_10] 35 (0, 0)) (by (with_reducible repeat (first | refine blk_drewN ?_ _ | refine blk_drew ?_ | refine blk_alloc ?_ _)); exact BK130.out)) : gb130 ≠ gb135))
              have n7_ := Aside0.mk ((by rw [hg]; exact Nat.ne_of_gt (blk_lt (g := gb130) (o := .cells #[.int .i64 a0_0, .int .i64 a0_1, .int .i64 a0_2, .int .i64 a0_3, .int .i64 a0_4, .int .i64 a0_5, .int .i64 a0_6, .int .i64 a0_7, .int .i64 a0_8, .int .i64 a0_9, .int .i64 a0_10] 35 (0, 0)) (by (with_reducible repeat (first | refine blk_drewN ?_ _ | refine blk_drew ?_ | refine blk_alloc ?_ _)); exact BK130.out)) : gb135 ≠ gb130))
              have n8_ := Aside0.mk ((by rw [hg]; exact Nat.ne_of_lt (blk_lt (g := gb131) (o := .cells #[.int .i64 0, .int .i64 0, .int .i64 0, .int .i64 0, .int .i64 0, .int .i64 0, .int .i64 0, .int .i64 0, .int .i64 0, .int .i64 0, .int .i64 0] 35 (0, 0)) (by (with_reducible repeat (first | refine blk_drewN ?_ _ | refine blk_drew ?_ | refine blk_alloc ?_ _)); exact BK131.out)) : gb131 ≠ gb135))
              have n9_ := Aside0.mk ((by rw [hg]; exact Nat.ne_of_gt (blk_lt (g := gb131) (o := .cells #[.int .i64 0, .int .i64 0, .int .i64 0, .int .i64 0, .int .i64 0, .int .i64 0, .int .i64 0, .int .i64 0, .int .i64 0, .int .i64 0, .int .i64 0] 35 (0, 0)) (by (with_reducible repeat (first | refine blk_drewN ?_ _ | refine blk_drew ?_ | refine blk_alloc ?_ _)); exact BK131.out)) : gb135 ≠ gb131))
              clear BK130
              clear BK131
              clear HB
              have BK130 := n0_
              have BK131 := n1_
              have HB := n2_
              have BK135 := n3_
              have GW135 := n4_
              have GE135 := n5_
              have NB130_135 := n6_
              have NB135_130 := n7_
              have NB131_135 := n8_
              have NB135_131 := n9_
              clear n0_ n1_ n2_ n3_ n4_ n5_ n6_ n7_ n8_ n9_
              clear hb hbox hg
              refine hK.out _ _ ⟨(blk_cell BK130.out 0).trans rfl, (blk_cell BK130.out 1).trans rfl, (blk_cell BK130.out 2).trans rfl, (blk_cell BK130.out 3).trans rfl, (blk_cell BK130.out 4).trans rfl, (blk_cell BK130.out 5).trans rfl, (blk_cell BK130.out 6).trans rfl, (blk_cell BK130.out 7).trans rfl, (blk_cell BK130.out 8).trans rfl, (blk_cell BK130.out 9).trans rfl, (blk_cell BK130.out 10).trans rfl⟩ (fun hHeld => ?_)
              clear hK K
              refine norm_ (a' := ?_) ?_ ?_
              rotate_left
              · show Act.put _ (some 5) _ = _
                simp only [Act.put, List.setIfInBounds_toArray, List.set_cons_zero, List.set_cons_succ, i64_w, i32_w]
                rfl
              exact norm_ (by simp only [putAll, Act.put, List.setIfInBounds_toArray, List.set_cons_zero, List.set_cons_succ]) (hCont (gb135) _ ⟨hHeld, (by (with_reducible repeat (first | refine blk_drewN ?_ _ | refine blk_drew ?_ | refine blk_alloc ?_ _)); exact BK130.out), (by (with_reducible repeat (first | refine blk_drewN ?_ _ | refine blk_drew ?_ | refine blk_alloc ?_ _)); exact BK131.out), (by (with_reducible repeat (first | refine blk_drewN ?_ _ | refine blk_drew ?_ | refine blk_alloc ?_ _)); exact BK135.out), GW135.out, GE135.out, NB130_135.out, NB135_130.out, NB131_135.out, NB135_131.out, (by repeat (first | (with_reducible first | exact HB.out | apply below_alloc | apply pw_below_drewN | apply below_drew1 | refine below_set ?_ GE130.out | refine below_set ?_ GE131.out | refine below_set ?_ GE135.out) | exact HB.out))⟩)
            · skip
              refine box_step ?hg (N := 5) ?hd (cs := #[.int .i64 0, .int .i64 0, .int .i64 0, .int .i64 0, .int .i64 0, .int .i64 0, .int .i64 0, .int .i64 0, .int .i64 0, .int .i64 0, .int .i64 0]) (t := 35) ?hr ?_; (case hd => rfl); (case hg => rfl); (case hr => first | (go_simp; done) | (go_simp; rfl))
              intro gb135 hg w44 hbox hb
              have n0_ := Aside0.mk (blk_below (g := gb130) (o := .cells #[.int .i64 a0_0, .int .i64 a0_1, .int .i64 a0_2, .int .i64 a0_3, .int .i64 a0_4, .int .i64 a0_5, .int .i64 a0_6, .int .i64 a0_7, .int .i64 a0_8, .int .i64 a0_9, .int .i64 a0_10] 35 (0, 0)) (by (with_reducible repeat (first | refine blk_drewN ?_ _ | refine blk_drew ?_ | refine blk_alloc ?_ _)); exact BK130.out) hb)
              have n1_ := Aside0.mk (blk_below (g := gb131) (o := .cells #[.int .i64 0, .int .i64 0, .int .i64 0, .int .i64 0, .int .i64 0, .int .i64 0, .int .i64 0, .int .i64 0, .int .i64 0, .int .i64 0, .int .i64 0] 35 (0, 0)) (by (with_reducible repeat (first | refine blk_drewN ?_ _ | refine blk_drew ?_ | refine blk_alloc ?_ _)); exact BK131.out) hb)
              have n2_ := Aside0.mk (below_step (by repeat (first | (with_reducible first | exact HB.out | apply below_alloc | apply pw_below_drewN | apply below_drew1 | refine below_set ?_ GE130.out | refine below_set ?_ GE131.out) | exact HB.out)) hb)
              have n3_ := Aside0.mk (hbox)
              have n4_ := Aside0.mk ((by rw [hg]; exact (below_size (by repeat (first | (with_reducible first | exact HB.out | apply below_alloc | apply pw_below_drewN | apply below_drew1 | refine below_set ?_ GE130.out | refine below_set ?_ GE131.out) | exact HB.out))) : w.heap.size ≤ gb135))
              have n5_ := Aside0.mk ((by rw [hg]; exact (below_size (by repeat (first | (with_reducible first | exact HB.out | apply below_alloc | apply pw_below_drewN | apply below_drew1 | refine below_set ?_ GE130.out | refine below_set ?_ GE131.out) | exact HB.out))) : w.heap.size ≤ gb135))
              have n6_ := Aside0.mk ((by rw [hg]; exact Nat.ne_of_lt (blk_lt (g := gb130) (o := .cells #[.int .i64 a0_0, .int .i64 a0_1, .int .i64 a0_2, .int .i64 a0_3, .int .i64 a0_4, .int .i64 a0_5, .int .i64 a0_6, .int .i64 a0_7, .int .i64 a0_8, .int .i64 a0_9, .int .i64 a0_10] 35 (0, 0)) (by (with_reducible repeat (first | refine blk_drewN ?_ _ | refine blk_drew ?_ | refine blk_alloc ?_ _)); exact BK130.out)) : gb130 ≠ gb135))
              have n7_ := Aside0.mk ((by rw [hg]; exact Nat.ne_of_gt (blk_lt (g := gb130) (o := .cells #[.int .i64 a0_0, .int .i64 a0_1, .int .i64 a0_2, .int .i64 a0_3, .int .i64 a0_4, .int .i64 a0_5, .int .i64 a0_6, .int .i64 a0_7, .int .i64 a0_8, .int .i64 a0_9, .int .i64 a0_10] 35 (0, 0)) (by (with_reducible repeat (first | refine blk_drewN ?_ _ | refine blk_drew ?_ | refine blk_alloc ?_ _)); exact BK130.out)) : gb135 ≠ gb130))
              have n8_ := Aside0.mk ((by rw [hg]; exact Nat.ne_of_lt (blk_lt (g := gb131) (o := .cells #[.int .i64 0, .int .i64 0, .int .i64 0, .int .i64 0, .int .i64 0, .int .i64 0, .int .i64 0, .int .i64 0, .int .i64 0, .int .i64 0, .int .i64 0] 35 (0, 0)) (by (with_reducible repeat (first | refine blk_drewN ?_ _ | refine blk_drew ?_ | refine blk_alloc ?_ _)); exact BK131.out)) : gb131 ≠ gb135))
              have n9_ := Aside0.mk ((by rw [hg]; exact Nat.ne_of_gt (blk_lt (g := gb131) (o := .cells #[.int .i64 0, .int .i64 0, .int .i64 0, .int .i64 0, .int .i64 0, .int .i64 0, .int .i64 0, .int .i64 0, .int .i64 0, .int .i64 0, .int .i64 0] 35 (0, 0)) (by (with_reducible repeat (first | refine blk_drewN ?_ _ | refine blk_drew ?_ | refine blk_alloc ?_ _)); exact BK131.out)) : gb135 ≠ gb131))
              clear BK130
              clear BK131
              clear HB
              have BK130 := n0_
              have BK131 := n1_
              have HB := n2_
              have BK135 := n3_
              have GW135 := n4_
              have GE135 := n5_
              have NB130_135 := n6_
              have NB135_130 := n7_
              have NB131_135 := n8_
              have NB135_131 := n9_
              clear n0_ n1_ n2_ n3_ n4_ n5_ n6_ n7_ n8_ n9_
              clear hb hbox hg
              refine hK.out _ _ ⟨(blk_cell BK130.out 0).trans rfl, (blk_cell BK130.out 1).trans rfl, (blk_cell BK130.out 2).trans rfl, (blk_cell BK130.out 3).trans rfl, (blk_cell BK130.out 4).trans rfl, (blk_cell BK130.out 5).trans rfl, (blk_cell BK130.out 6).trans rfl, (blk_cell BK130.out 7).trans rfl, (blk_cell BK130.out 8).trans rfl, (blk_cell BK130.out 9).trans rfl, (blk_cell BK130.out 10).trans rfl⟩ (fun hHeld => ?_)
              clear hK K
              refine norm_ (a' := ?_) ?_ ?_
              rotate_left
              · show Act.put _ (some 5) _ = _
                simp only [Act.put, List.setIfInBounds_toArray, List.set_cons_zero, List.set_cons_succ, i64_w, i32_w]
                rfl
              refine one_ (i := 9) (N := some 15) #[true, true, true, true, true, true, true, true, true, true, false, true, false] rfl rfl (one_of HT_.out (by kernel_rfl)) (by decide) (fun K hK => ?_)
              refine goes_ Tryd.func23 (by kernel_rfl) rfl #[.int .i64 a0_3, .int .i64 1, .int .i64 4] (by rfl) rfl rfl (by (try simp only [List.map_toArray, List.map_cons, List.map_nil]); first | done | rfl | (simp only [List.length_drop, List.length_take]; rfl)) ?_
              with_reducible refine (empennageref04_near.calls a0_3 1 4 t134 _ A5.out).mono ?_
              rintro e w' ⟨rfl, ⟨nd, rfl⟩⟩
              refine ⟨_, rfl, ?_⟩
              refine hK.out _ _ ⟨(blk_cell BK130.out 0).trans rfl, (blk_cell BK130.out 1).trans rfl, (blk_cell BK130.out 2).trans rfl, (blk_cell BK130.out 3).trans rfl, (blk_cell BK130.out 4).trans rfl, (blk_cell BK130.out 5).trans rfl, (blk_cell BK130.out 6).trans rfl, (blk_cell BK130.out 7).trans rfl, (blk_cell BK130.out 8).trans rfl, (blk_cell BK130.out 9).trans rfl, (blk_cell BK130.out 10).trans rfl⟩ (fun hHeld => ?_)
              clear hK K
              refine norm_ (a' := ?_) ?_ ?_
              rotate_left
              · show Act.put _ (some 15) _ = _
                simp only [Act.put, List.setIfInBounds_toArray, List.set_cons_zero, List.set_cons_succ, i64_w, i32_w]
                rfl
              refine pure_ (i := 10) (N := some 16) (v := ?_) (a' := ?_) #[true, true, true, true, true, true, true, true, true, true, true, true, false] rfl rfl (any_of HT_.out (by kernel_rfl)) (fun _ _ _ h => h) (Or.inl ⟨by rfl, ?_⟩) ?_ ?_
              rotate_left
              · intro w'
                go_simp
                with_reducible rfl
              rotate_left
              · simp only [Act.put, List.setIfInBounds_toArray, List.set_cons_zero, List.set_cons_succ, i64_w, i32_w]
                rfl
              exact norm_ (by simp only [putAll, Act.put, List.setIfInBounds_toArray, List.set_cons_zero, List.set_cons_succ]) (hCont (gb135) _ ⟨hHeld, (by (with_reducible repeat (first | refine blk_drewN ?_ _ | refine blk_drew ?_ | refine blk_alloc ?_ _)); exact BK130.out), (by (with_reducible repeat (first | refine blk_drewN ?_ _ | refine blk_drew ?_ | refine blk_alloc ?_ _)); exact BK131.out), (by (with_reducible repeat (first | refine blk_drewN ?_ _ | refine blk_drew ?_ | refine blk_alloc ?_ _)); exact BK135.out), GW135.out, GE135.out, NB130_135.out, NB135_130.out, NB131_135.out, NB135_131.out, (by repeat (first | (with_reducible first | exact HB.out | apply below_alloc | apply pw_below_drewN | apply below_drew1 | refine below_set ?_ GE130.out | refine below_set ?_ GE131.out | refine below_set ?_ GE135.out) | exact HB.out))⟩)
          · skip
            refine box_step ?hg (N := 5) ?hd (cs := #[.int .i64 0, .int .i64 0, .int .i64 0, .int .i64 0, .int .i64 0, .int .i64 0, .int .i64 0, .int .i64 0, .int .i64 0, .int .i64 0, .int .i64 0]) (t := 35) ?hr ?_; (case hd => rfl); (case hg => rfl); (case hr => first | (go_simp; done) | (go_simp; rfl))
            intro gb135 hg w44 hbox hb
            have n0_ := Aside0.mk (blk_below (g := gb130) (o := .cells #[.int .i64 a0_0, .int .i64 a0_1, .int .i64 a0_2, .int .i64 a0_3, .int .i64 a0_4, .int .i64 a0_5, .int .i64 a0_6, .int .i64 a0_7, .int .i64 a0_8, .int .i64 a0_9, .int .i64 a0_10] 35 (0, 0)) (by (with_reducible repeat (first | refine blk_drewN ?_ _ | refine blk_drew ?_ | refine blk_alloc ?_ _)); exact BK130.out) hb)
            have n1_ := Aside0.mk (blk_below (g := gb131) (o := .cells #[.int .i64 0, .int .i64 0, .int .i64 0, .int .i64 0, .int .i64 0, .int .i64 0, .int .i64 0, .int .i64 0, .int .i64 0, .int .i64 0, .int .i64 0] 35 (0, 0)) (by (with_reducible repeat (first | refine blk_drewN ?_ _ | refine blk_drew ?_ | refine blk_alloc ?_ _)); exact BK131.out) hb)
            have n2_ := Aside0.mk (below_step (by repeat (first | (with_reducible first | exact HB.out | apply below_alloc | apply pw_below_drewN | apply below_drew1 | refine below_set ?_ GE130.out | refine below_set ?_ GE131.out) | exact HB.out)) hb)
            have n3_ := Aside0.mk (hbox)
            have n4_ := Aside0.mk ((by rw [hg]; exact (below_size (by repeat (first | (with_reducible first | exact HB.out | apply below_alloc | apply pw_below_drewN | apply below_drew1 | refine below_set ?_ GE130.out | refine below_set ?_ GE131.out) | exact HB.out))) : w.heap.size ≤ gb135))
            have n5_ := Aside0.mk ((by rw [hg]; exact (below_size (by repeat (first | (with_reducible first | exact HB.out | apply below_alloc | apply pw_below_drewN | apply below_drew1 | refine below_set ?_ GE130.out | refine below_set ?_ GE131.out) | exact HB.out))) : w.heap.size ≤ gb135))
            have n6_ := Aside0.mk ((by rw [hg]; exact Nat.ne_of_lt (blk_lt (g := gb130) (o := .cells #[.int .i64 a0_0, .int .i64 a0_1, .int .i64 a0_2, .int .i64 a0_3, .int .i64 a0_4, .int .i64 a0_5, .int .i64 a0_6, .int .i64 a0_7, .int .i64 a0_8, .int .i64 a0_9, .int .i64 a0_10] 35 (0, 0)) (by (with_reducible repeat (first | refine blk_drewN ?_ _ | refine blk_drew ?_ | refine blk_alloc ?_ _)); exact BK130.out)) : gb130 ≠ gb135))
            have n7_ := Aside0.mk ((by rw [hg]; exact Nat.ne_of_gt (blk_lt (g := gb130) (o := .cells #[.int .i64 a0_0, .int .i64 a0_1, .int .i64 a0_2, .int .i64 a0_3, .int .i64 a0_4, .int .i64 a0_5, .int .i64 a0_6, .int .i64 a0_7, .int .i64 a0_8, .int .i64 a0_9, .int .i64 a0_10] 35 (0, 0)) (by (with_reducible repeat (first | refine blk_drewN ?_ _ | refine blk_drew ?_ | refine blk_alloc ?_ _)); exact BK130.out)) : gb135 ≠ gb130))
            have n8_ := Aside0.mk ((by rw [hg]; exact Nat.ne_of_lt (blk_lt (g := gb131) (o := .cells #[.int .i64 0, .int .i64 0, .int .i64 0, .int .i64 0, .int .i64 0, .int .i64 0, .int .i64 0, .int .i64 0, .int .i64 0, .int .i64 0, .int .i64 0] 35 (0, 0)) (by (with_reducible repeat (first | refine blk_drewN ?_ _ | refine blk_drew ?_ | refine blk_alloc ?_ _)); exact BK131.out)) : gb131 ≠ gb135))
            have n9_ := Aside0.mk ((by rw [hg]; exact Nat.ne_of_gt (blk_lt (g := gb131) (o := .cells #[.int .i64 0, .int .i64 0, .int .i64 0, .int .i64 0, .int .i64 0, .int .i64 0, .int .i64 0, .int .i64 0, .int .i64 0, .int .i64 0, .int .i64 0] 35 (0, 0)) (by (with_reducible repeat (first | refine blk_drewN ?_ _ | refine blk_drew ?_ | refine blk_alloc ?_ _)); exact BK131.out)) : gb135 ≠ gb131))
            clear BK130
            clear BK131
            clear HB
            have BK130 := n0_
            have BK131 := n1_
            have HB := n2_
            have BK135 := n3_
            have GW135 := n4_
            have GE135 := n5_
            have NB130_135 := n6_
            have NB135_130 := n7_
            have NB131_135 := n8_
            have NB135_131 := n9_
            clear n0_ n1_ n2_ n3_ n4_ n5_ n6_ n7_ n8_ n9_
            clear hb hbox hg
            refine hK.out _ _ ⟨(blk_cell BK130.out 0).trans rfl, (blk_cell BK130.out 1).trans rfl, (blk_cell BK130.out 2).trans rfl, (blk_cell BK130.out 3).trans rfl, (blk_cell BK130.out 4).trans rfl, (blk_cell BK130.out 5).trans rfl, (blk_cell BK130.out 6).trans rfl, (blk_cell BK130.out 7).trans rfl, (blk_cell BK130.out 8).trans rfl, (blk_cell BK130.out 9).trans rfl, (blk_cell BK130.out 10).trans rfl⟩ (fun hHeld => ?_)
            clear hK K
            refine norm_ (a' := ?_) ?_ ?_
            rotate_left
            · show Act.put _ (some 5) _ = _
              simp only [Act.put, List.setIfInBounds_toArray, List.set_cons_zero, List.set_cons_succ, i64_w, i32_w]
              rfl
            refine one_ (i := 6) (N := some 12) #[true, true, true, true, true, true, true, true, true, false, false, true, false] rfl rfl (one_of HT_.out (by kernel_rfl)) (by decide) (fun K hK => ?_)
            refine goes_ Tryd.func23 (by kernel_rfl) rfl #[.int .i64 a0_1, .int .i64 0, .int .i64 a1] (by rfl) rfl rfl (by (try simp only [List.map_toArray, List.map_cons, List.map_nil]); first | done | rfl | (simp only [List.length_drop, List.length_take]; rfl)) ?_
            with_reducible refine (empennageref04_near.calls a0_1 0 a1 t133 _ A4.out).mono ?_
            rintro e w' ⟨rfl, ⟨nd, rfl⟩⟩
            refine ⟨_, rfl, ?_⟩
            refine hK.out _ _ ⟨(blk_cell BK130.out 0).trans rfl, (blk_cell BK130.out 1).trans rfl, (blk_cell BK130.out 2).trans rfl, (blk_cell BK130.out 3).trans rfl, (blk_cell BK130.out 4).trans rfl, (blk_cell BK130.out 5).trans rfl, (blk_cell BK130.out 6).trans rfl, (blk_cell BK130.out 7).trans rfl, (blk_cell BK130.out 8).trans rfl, (blk_cell BK130.out 9).trans rfl, (blk_cell BK130.out 10).trans rfl⟩ (fun hHeld => ?_)
            clear hK K
            refine norm_ (a' := ?_) ?_ ?_
            rotate_left
            · show Act.put _ (some 12) _ = _
              simp only [Act.put, List.setIfInBounds_toArray, List.set_cons_zero, List.set_cons_succ, i64_w, i32_w]
              rfl
            refine one_ (i := 9) (N := some 15) #[true, true, true, true, true, true, true, true, true, true, false, true, false] rfl rfl (one_of HT_.out (by kernel_rfl)) (by decide) (fun K hK => ?_)
            refine goes_ Tryd.func23 (by kernel_rfl) rfl #[.int .i64 a0_3, .int .i64 1, .int .i64 4] (by rfl) rfl rfl (by (try simp only [List.map_toArray, List.map_cons, List.map_nil]); first | done | rfl | (simp only [List.length_drop, List.length_take]; rfl)) ?_
            with_reducible refine (empennageref04_near.calls a0_3 1 4 t134 _ A5.out).mono ?_
            rintro e w' ⟨rfl, ⟨nd, rfl⟩⟩
            refine ⟨_, rfl, ?_⟩
            refine hK.out _ _ ⟨(blk_cell BK130.out 0).trans rfl, (blk_cell BK130.out 1).trans rfl, (blk_cell BK130.out 2).trans rfl, (blk_cell BK130.out 3).trans rfl, (blk_cell BK130.out 4).trans rfl, (blk_cell BK130.out 5).trans rfl, (blk_cell BK130.out 6).trans rfl, (blk_cell BK130.out 7).trans rfl, (blk_cell BK130.out 8).trans rfl, (blk_cell BK130.out 9).trans rfl, (blk_cell BK130.out 10).trans rfl⟩ (fun hHeld => ?_)
            clear hK K
            refine norm_ (a' := ?_) ?_ ?_
            rotate_left
            · show Act.put _ (some 15) _ = _
              simp only [Act.put, List.setIfInBounds_toArray, List.set_cons_zero, List.set_cons_succ, i64_w, i32_w]
              rfl
            refine pure_ (i := 10) (N := some 16) (v := ?_) (a' := ?_) #[true, true, true, true, true, true, true, true, true, true, true, true, false] rfl rfl (any_of HT_.out (by kernel_rfl)) (fun _ _ _ h => h) (Or.inl ⟨by rfl, ?_⟩) ?_ ?_
            rotate_left
            · intro w'
              go_simp
              with_reducible rfl
            rotate_left
            · simp only [Act.put, List.setIfInBounds_toArray, List.set_cons_zero, List.set_cons_succ, i64_w, i32_w]
              rfl
            exact norm_ (by simp only [putAll, Act.put, List.setIfInBounds_toArray, List.set_cons_zero, List.set_cons_succ]) (hCont (gb135) _ ⟨hHeld, (by (with_reducible repeat (first | refine blk_drewN ?_ _ | refine blk_drew ?_ | refine blk_alloc ?_ _)); exact BK130.out), (by (with_reducible repeat (first | refine blk_drewN ?_ _ | refine blk_drew ?_ | refine blk_alloc ?_ _)); exact BK131.out), (by (with_reducible repeat (first | refine blk_drewN ?_ _ | refine blk_drew ?_ | refine blk_alloc ?_ _)); exact BK135.out), GW135.out, GE135.out, NB130_135.out, NB135_130.out, NB131_135.out, NB135_131.out, (by repeat (first | (with_reducible first | exact HB.out | apply below_alloc | apply pw_below_drewN | apply below_drew1 | refine below_set ?_ GE130.out | refine below_set ?_ GE131.out | refine below_set ?_ GE135.out) | exact HB.out))⟩)
        · skip
          refine box_step ?hg (N := 5) ?hd (cs := #[.int .i64 0, .int .i64 0, .int .i64 0, .int .i64 0, .int .i64 0, .int .i64 0, .int .i64 0, .int .i64 0, .int .i64 0, .int .i64 0, .int .i64 0]) (t := 35) ?hr ?_; (case hd => rfl); (case hg => rfl); (case hr => first | (go_simp; done) | (go_simp; rfl))
          intro gb135 hg w44 hbox hb
          have n0_ := Aside0.mk (blk_below (g := gb130) (o := .cells #[.int .i64 a0_0, .int .i64 a0_1, .int .i64 a0_2, .int .i64 a0_3, .int .i64 a0_4, .int .i64 a0_5, .int .i64 a0_6, .int .i64 a0_7, .int .i64 a0_8, .int .i64 a0_9, .int .i64 a0_10] 35 (0, 0)) (by (with_reducible repeat (first | refine blk_drewN ?_ _ | refine blk_drew ?_ | refine blk_alloc ?_ _)); exact BK130.out) hb)
          have n1_ := Aside0.mk (blk_below (g := gb131) (o := .cells #[.int .i64 0, .int .i64 0, .int .i64 0, .int .i64 0, .int .i64 0, .int .i64 0, .int .i64 0, .int .i64 0, .int .i64 0, .int .i64 0, .int .i64 0] 35 (0, 0)) (by (with_reducible repeat (first | refine blk_drewN ?_ _ | refine blk_drew ?_ | refine blk_alloc ?_ _)); exact BK131.out) hb)
          have n2_ := Aside0.mk (below_step (by repeat (first | (with_reducible first | exact HB.out | apply below_alloc | apply pw_below_drewN | apply below_drew1 | refine below_set ?_ GE130.out | refine below_set ?_ GE131.out) | exact HB.out)) hb)
          have n3_ := Aside0.mk (hbox)
          have n4_ := Aside0.mk ((by rw [hg]; exact (below_size (by repeat (first | (with_reducible first | exact HB.out | apply below_alloc | apply pw_below_drewN | apply below_drew1 | refine below_set ?_ GE130.out | refine below_set ?_ GE131.out) | exact HB.out))) : w.heap.size ≤ gb135))
          have n5_ := Aside0.mk ((by rw [hg]; exact (below_size (by repeat (first | (with_reducible first | exact HB.out | apply below_alloc | apply pw_below_drewN | apply below_drew1 | refine below_set ?_ GE130.out | refine below_set ?_ GE131.out) | exact HB.out))) : w.heap.size ≤ gb135))
          have n6_ := Aside0.mk ((by rw [hg]; exact Nat.ne_of_lt (blk_lt (g := gb130) (o := .cells #[.int .i64 a0_0, .int .i64 a0_1, .int .i64 a0_2, .int .i64 a0_3, .int .i64 a0_4, .int .i64 a0_5, .int .i64 a0_6, .int .i64 a0_7, .int .i64 a0_8, .int .i64 a0_9, .int .i64 a0_10] 35 (0, 0)) (by (with_reducible repeat (first | refine blk_drewN ?_ _ | refine blk_drew ?_ | refine blk_alloc ?_ _)); exact BK130.out)) : gb130 ≠ gb135))
          have n7_ := Aside0.mk ((by rw [hg]; exact Nat.ne_of_gt (blk_lt (g := gb130) (o := .cells #[.int .i64 a0_0, .int .i64 a0_1, .int .i64 a0_2, .int .i64 a0_3, .int .i64 a0_4, .int .i64 a0_5, .int .i64 a0_6, .int .i64 a0_7, .int .i64 a0_8, .int .i64 a0_9, .int .i64 a0_10] 35 (0, 0)) (by (with_reducible repeat (first | refine blk_drewN ?_ _ | refine blk_drew ?_ | refine blk_alloc ?_ _)); exact BK130.out)) : gb135 ≠ gb130))
          have n8_ := Aside0.mk ((by rw [hg]; exact Nat.ne_of_lt (blk_lt (g := gb131) (o := .cells #[.int .i64 0, .int .i64 0, .int .i64 0, .int .i64 0, .int .i64 0, .int .i64 0, .int .i64 0, .int .i64 0, .int .i64 0, .int .i64 0, .int .i64 0] 35 (0, 0)) (by (with_reducible repeat (first | refine blk_drewN ?_ _ | refine blk_drew ?_ | refine blk_alloc ?_ _)); exact BK131.out)) : gb131 ≠ gb135))
          have n9_ := Aside0.mk ((by rw [hg]; exact Nat.ne_of_gt (blk_lt (g := gb131) (o := .cells #[.int .i64 0, .int .i64 0, .int .i64 0, .int .i64 0, .int .i64 0, .int .i64 0, .int .i64 0, .int .i64 0, .int .i64 0, .int .i64 0, .int .i64 0] 35 (0, 0)) (by (with_reducible repeat (first | refine blk_drewN ?_ _ | refine blk_drew ?_ | refine blk_alloc ?_ _)); exact BK131.out)) : gb135 ≠ gb131))
          clear BK130
          clear BK131
          clear HB
          have BK130 := n0_
          have BK131 := n1_
          have HB := n2_
          have BK135 := n3_
          have GW135 := n4_
          have GE135 := n5_
          have NB130_135 := n6_
          have NB135_130 := n7_
          have NB131_135 := n8_
          have NB135_131 := n9_
          clear n0_ n1_ n2_ n3_ n4_ n5_ n6_ n7_ n8_ n9_
          clear hb hbox hg
          refine hK.out _ _ ⟨(blk_cell BK130.out 0).trans rfl, (blk_cell BK130.out 1).trans rfl, (blk_cell BK130.out 2).trans rfl, (blk_cell BK130.out 3).trans rfl, (blk_cell BK130.out 4).trans rfl, (blk_cell BK130.out 5).trans rfl, (blk_cell BK130.out 6).trans rfl, (blk_cell BK130.out 7).trans rfl, (blk_cell BK130.out 8).trans rfl, (blk_cell BK130.out 9).trans rfl, (blk_cell BK130.out 10).trans rfl⟩ (fun hHeld => ?_)
          clear hK K
          refine norm_ (a' := ?_) ?_ ?_
          rotate_left
          · show Act.put _ (some 5) _ = _
            simp only [Act.put, List.setIfInBounds_toArray, List.set_cons_zero, List.set_cons_succ, i64_w, i32_w]
            rfl
          refine one_ (i := 2) (N := some 8) #[true, true, true, true, true, true, false, true, true, false, false, true, false] rfl rfl (one_of HT_.out (by kernel_rfl)) (by decide) (fun K hK => ?_)
          refine goes_ Tryd.func23 (by kernel_rfl) rfl #[.int .i64 a0_0, .int .i64 0, .int .i64 2] (by rfl) rfl rfl (by (try simp only [List.map_toArray, List.map_cons, List.map_nil]); first | done | rfl | (simp only [List.length_drop, List.length_take]; rfl)) ?_
          with_reducible refine (empennageref04_near.calls a0_0 0 2 t132 _ A3.out).mono ?_
          rintro e w' ⟨rfl, ⟨nd, rfl⟩⟩
          refine ⟨_, rfl, ?_⟩
          refine hK.out _ _ ⟨(blk_cell BK130.out 0).trans rfl, (blk_cell BK130.out 1).trans rfl, (blk_cell BK130.out 2).trans rfl, (blk_cell BK130.out 3).trans rfl, (blk_cell BK130.out 4).trans rfl, (blk_cell BK130.out 5).trans rfl, (blk_cell BK130.out 6).trans rfl, (blk_cell BK130.out 7).trans rfl, (blk_cell BK130.out 8).trans rfl, (blk_cell BK130.out 9).trans rfl, (blk_cell BK130.out 10).trans rfl⟩ (fun hHeld => ?_)
          clear hK K
          refine norm_ (a' := ?_) ?_ ?_
          rotate_left
          · show Act.put _ (some 8) _ = _
            simp only [Act.put, List.setIfInBounds_toArray, List.set_cons_zero, List.set_cons_succ, i64_w, i32_w]
            rfl
          refine one_ (i := 6) (N := some 12) #[true, true, true, true, true, true, true, true, true, false, false, true, false] rfl rfl (one_of HT_.out (by kernel_rfl)) (by decide) (fun K hK => ?_)
          refine goes_ Tryd.func23 (by kernel_rfl) rfl #[.int .i64 a0_1, .int .i64 0, .int .i64 a1] (by rfl) rfl rfl (by (try simp only [List.map_toArray, List.map_cons, List.map_nil]); first | done | rfl | (simp only [List.length_drop, List.length_take]; rfl)) ?_
          with_reducible refine (empennageref04_near.calls a0_1 0 a1 t133 _ A4.out).mono ?_
          rintro e w' ⟨rfl, ⟨nd, rfl⟩⟩
          refine ⟨_, rfl, ?_⟩
          refine hK.out _ _ ⟨(blk_cell BK130.out 0).trans rfl, (blk_cell BK130.out 1).trans rfl, (blk_cell BK130.out 2).trans rfl, (blk_cell BK130.out 3).trans rfl, (blk_cell BK130.out 4).trans rfl, (blk_cell BK130.out 5).trans rfl, (blk_cell BK130.out 6).trans rfl, (blk_cell BK130.out 7).trans rfl, (blk_cell BK130.out 8).trans rfl, (blk_cell BK130.out 9).trans rfl, (blk_cell BK130.out 10).trans rfl⟩ (fun hHeld => ?_)
          clear hK K
          refine norm_ (a' := ?_) ?_ ?_
          rotate_left
          · show Act.put _ (some 12) _ = _
            simp only [Act.put, List.setIfInBounds_toArray, List.set_cons_zero, List.set_cons_succ, i64_w, i32_w]
            rfl
          refine one_ (i := 9) (N := some 15) #[true, true, true, true, true, true, true, true, true, true, false, true, false] rfl rfl (one_of HT_.out (by kernel_rfl)) (by decide) (fun K hK => ?_)
          refine goes_ Tryd.func23 (by kernel_rfl) rfl #[.int .i64 a0_3, .int .i64 1, .int .i64 4] (by rfl) rfl rfl (by (try simp only [List.map_toArray, List.map_cons, List.map_nil]); first | done | rfl | (simp only [List.length_drop, List.length_take]; rfl)) ?_
          with_reducible refine (empennageref04_near.calls a0_3 1 4 t134 _ A5.out).mono ?_
          rintro e w' ⟨rfl, ⟨nd, rfl⟩⟩
          refine ⟨_, rfl, ?_⟩
          refine hK.out _ _ ⟨(blk_cell BK130.out 0).trans rfl, (blk_cell BK130.out 1).trans rfl, (blk_cell BK130.out 2).trans rfl, (blk_cell BK130.out 3).trans rfl, (blk_cell BK130.out 4).trans rfl, (blk_cell BK130.out 5).trans rfl, (blk_cell BK130.out 6).trans rfl, (blk_cell BK130.out 7).trans rfl, (blk_cell BK130.out 8).trans rfl, (blk_cell BK130.out 9).trans rfl, (blk_cell BK130.out 10).trans rfl⟩ (fun hHeld => ?_)
          clear hK K
          refine norm_ (a' := ?_) ?_ ?_
          rotate_left
          · show Act.put _ (some 15) _ = _
            simp only [Act.put, List.setIfInBounds_toArray, List.set_cons_zero, List.set_cons_succ, i64_w, i32_w]
            rfl
          refine pure_ (i := 10) (N := some 16) (v := ?_) (a' := ?_) #[true, true, true, true, true, true, true, true, true, true, true, true, false] rfl rfl (any_of HT_.out (by kernel_rfl)) (fun _ _ _ h => h) (Or.inl ⟨by rfl, ?_⟩) ?_ ?_
          rotate_left
          · intro w'
            go_simp
            with_reducible rfl
          rotate_left
          · simp only [Act.put, List.setIfInBounds_toArray, List.set_cons_zero, List.set_cons_succ, i64_w, i32_w]
            rfl
          exact norm_ (by simp only [putAll, Act.put, List.setIfInBounds_toArray, List.set_cons_zero, List.set_cons_succ]) (hCont (gb135) _ ⟨hHeld, (by (with_reducible repeat (first | refine blk_drewN ?_ _ | refine blk_drew ?_ | refine blk_alloc ?_ _)); exact BK130.out), (by (with_reducible repeat (first | refine blk_drewN ?_ _ | refine blk_drew ?_ | refine blk_alloc ?_ _)); exact BK131.out), (by (with_reducible repeat (first | refine blk_drewN ?_ _ | refine blk_drew ?_ | refine blk_alloc ?_ _)); exact BK135.out), GW135.out, GE135.out, NB130_135.out, NB135_130.out, NB131_135.out, NB135_131.out, (by repeat (first | (with_reducible first | exact HB.out | apply below_alloc | apply pw_below_drewN | apply below_drew1 | refine below_set ?_ GE130.out | refine below_set ?_ GE131.out | refine below_set ?_ GE135.out) | exact HB.out))⟩)
      rintro gb135 w45 ⟨hS_, h0_, h1_, h2_, h3_, h4_, h5_, h6_, h7_, h8_, h9_⟩
      have n0_ : Aside0 (w45.heap[gb130]? = some (.cells #[.int .i64 a0_0, .int .i64 a0_1, .int .i64 a0_2, .int .i64 a0_3, .int .i64 a0_4, .int .i64 a0_5, .int .i64 a0_6, .int .i64 a0_7, .int .i64 a0_8, .int .i64 a0_9, .int .i64 a0_10] 35 (0, 0))) := ⟨h0_⟩
      have n1_ : Aside0 (w45.heap[gb131]? = some (.cells #[.int .i64 0, .int .i64 0, .int .i64 0, .int .i64 0, .int .i64 0, .int .i64 0, .int .i64 0, .int .i64 0, .int .i64 0, .int .i64 0, .int .i64 0] 35 (0, 0))) := ⟨h1_⟩
      have n2_ : Aside0 (w45.heap[gb135]? = some (.cells #[.int .i64 0, .int .i64 0, .int .i64 0, .int .i64 0, .int .i64 0, .int .i64 0, .int .i64 0, .int .i64 0, .int .i64 0, .int .i64 0, .int .i64 0] 35 (0, 0))) := ⟨h2_⟩
      have n3_ : Aside0 (w.heap.size ≤ gb135) := ⟨h3_⟩
      have n4_ : Aside0 (w.heap.size ≤ gb135) := ⟨h4_⟩
      have n5_ : Aside0 (gb130 ≠ gb135) := ⟨h5_⟩
      have n6_ : Aside0 (gb135 ≠ gb130) := ⟨h6_⟩
      have n7_ : Aside0 (gb131 ≠ gb135) := ⟨h7_⟩
      have n8_ : Aside0 (gb135 ≠ gb131) := ⟨h8_⟩
      have n9_ : Aside0 (Below w.heap.size w w45) := ⟨h9_⟩
      clear BK130
      clear BK131
      clear HB
      clear h0_ h1_ h2_ h3_ h4_ h5_ h6_ h7_ h8_ h9_
      have BK130 := n0_
      have BK131 := n1_
      have BK135 := n2_
      have GW135 := n3_
      have GE135 := n4_
      have NB130_135 := n5_
      have NB135_130 := n6_
      have NB131_135 := n7_
      have NB135_131 := n8_
      have HB := n9_
      clear n0_ n1_ n2_ n3_ n4_ n5_ n6_ n7_ n8_ n9_
      have hHeld : w45.cell? ⟨gb130, 0, none⟩ = some (.int .i64 a0_0) ∧ w45.cell? ⟨gb130, 1, none⟩ = some (.int .i64 a0_1) ∧ w45.cell? ⟨gb130, 2, none⟩ = some (.int .i64 a0_2) ∧ w45.cell? ⟨gb130, 3, none⟩ = some (.int .i64 a0_3) ∧ w45.cell? ⟨gb130, 4, none⟩ = some (.int .i64 a0_4) ∧ w45.cell? ⟨gb130, 5, none⟩ = some (.int .i64 a0_5) ∧ w45.cell? ⟨gb130, 6, none⟩ = some (.int .i64 a0_6) ∧ w45.cell? ⟨gb130, 7, none⟩ = some (.int .i64 a0_7) ∧ w45.cell? ⟨gb130, 8, none⟩ = some (.int .i64 a0_8) ∧ w45.cell? ⟨gb130, 9, none⟩ = some (.int .i64 a0_9) ∧ w45.cell? ⟨gb130, 10, none⟩ = some (.int .i64 a0_10) := hS_
      refine norm_ (a' := ?_) ?_ ?_
      rotate_left
      · simp only [putAll, Act.put, List.setIfInBounds_toArray, List.set_cons_zero, List.set_cons_succ]
        rfl
      refine one_ (i := 12) (N := none) #[true, true, true, true, true, true, true, true, true, true, true, true, true] rfl rfl (one_of HT_.out (by kernel_rfl)) (by decide) (fun K hK => ?_)
      have hs46 : w45.cell? ⟨gb135, 0, none⟩ = some (.int .i64 0) := (blk_cell BK135.out 0).trans rfl
      have hfs46 := blk_frozen BK135.out 0
      have hns46_0 := NB130_135.out
      have hns46_1 := NB131_135.out
      have hms46_0 := NB135_130.out
      have hms46_1 := NB135_131.out
      have hs47 : w45.cell? ⟨gb135, 1, none⟩ = some (.int .i64 0) := (blk_cell BK135.out 1).trans rfl
      have hfs47 := blk_frozen BK135.out 1
      have hns47_0 := NB130_135.out
      have hns47_1 := NB131_135.out
      have hms47_0 := NB135_130.out
      have hms47_1 := NB135_131.out
      have hs48 : w45.cell? ⟨gb135, 2, none⟩ = some (.int .i64 0) := (blk_cell BK135.out 2).trans rfl
      have hfs48 := blk_frozen BK135.out 2
      have hns48_0 := NB130_135.out
      have hns48_1 := NB131_135.out
      have hms48_0 := NB135_130.out
      have hms48_1 := NB135_131.out
      have hs49 : w45.cell? ⟨gb135, 3, none⟩ = some (.int .i64 0) := (blk_cell BK135.out 3).trans rfl
      have hfs49 := blk_frozen BK135.out 3
      have hns49_0 := NB130_135.out
      have hns49_1 := NB131_135.out
      have hms49_0 := NB135_130.out
      have hms49_1 := NB135_131.out
      have hs50 : w45.cell? ⟨gb135, 4, none⟩ = some (.int .i64 0) := (blk_cell BK135.out 4).trans rfl
      have hfs50 := blk_frozen BK135.out 4
      have hns50_0 := NB130_135.out
      have hns50_1 := NB131_135.out
      have hms50_0 := NB135_130.out
      have hms50_1 := NB135_131.out
      have hs51 : w45.cell? ⟨gb135, 5, none⟩ = some (.int .i64 0) := (blk_cell BK135.out 5).trans rfl
      have hfs51 := blk_frozen BK135.out 5
      have hns51_0 := NB130_135.out
      have hns51_1 := NB131_135.out
      have hms51_0 := NB135_130.out
      have hms51_1 := NB135_131.out
      have hs52 : w45.cell? ⟨gb135, 6, none⟩ = some (.int .i64 0) := (blk_cell BK135.out 6).trans rfl
      have hfs52 := blk_frozen BK135.out 6
      have hns52_0 := NB130_135.out
      have hns52_1 := NB131_135.out
      have hms52_0 := NB135_130.out
      have hms52_1 := NB135_131.out
      have hs53 : w45.cell? ⟨gb135, 7, none⟩ = some (.int .i64 0) := (blk_cell BK135.out 7).trans rfl
      have hfs53 := blk_frozen BK135.out 7
      have hns53_0 := NB130_135.out
      have hns53_1 := NB131_135.out
      have hms53_0 := NB135_130.out
      have hms53_1 := NB135_131.out
      have hs54 : w45.cell? ⟨gb135, 8, none⟩ = some (.int .i64 0) := (blk_cell BK135.out 8).trans rfl
      have hfs54 := blk_frozen BK135.out 8
      have hns54_0 := NB130_135.out
      have hns54_1 := NB131_135.out
      have hms54_0 := NB135_130.out
      have hms54_1 := NB135_131.out
      have hs55 : w45.cell? ⟨gb135, 9, none⟩ = some (.int .i64 0) := (blk_cell BK135.out 9).trans rfl
      have hfs55 := blk_frozen BK135.out 9
      have hns55_0 := NB130_135.out
      have hns55_1 := NB131_135.out
      have hms55_0 := NB135_130.out
      have hms55_1 := NB135_131.out
      have hs56 : w45.cell? ⟨gb135, 10, none⟩ = some (.int .i64 0) := (blk_cell BK135.out 10).trans rfl
      have hfs56 := blk_frozen BK135.out 10
      have hns56_0 := NB130_135.out
      have hns56_1 := NB131_135.out
      have hms56_0 := NB135_130.out
      have hms56_1 := NB135_131.out
      refine skip_ (w1 := ?_) (by rfl) rfl ?_ ?_
      rotate_left
      · go_simp
        rfl
      refine hK.out _ _ ⟨((cell_far (p := ⟨gb135, _, none⟩) NB130_135.out _).trans (((cell_far (p := ⟨gb135, _, none⟩) NB130_135.out _).trans (((cell_far (p := ⟨gb135, _, none⟩) NB130_135.out _).trans (((cell_far (p := ⟨gb135, _, none⟩) NB130_135.out _).trans (((cell_far (p := ⟨gb135, _, none⟩) NB130_135.out _).trans (((cell_far (p := ⟨gb135, _, none⟩) NB130_135.out _).trans (((cell_far (p := ⟨gb135, _, none⟩) NB130_135.out _).trans (((cell_far (p := ⟨gb135, _, none⟩) NB130_135.out _).trans (((cell_far (p := ⟨gb135, _, none⟩) NB130_135.out _).trans (((cell_far (p := ⟨gb135, _, none⟩) NB130_135.out _).trans (((cell_far (p := ⟨gb135, _, none⟩) NB130_135.out _).trans (hHeld.1)))))))))))))))))))))), ((cell_far (p := ⟨gb135, _, none⟩) NB130_135.out _).trans (((cell_far (p := ⟨gb135, _, none⟩) NB130_135.out _).trans (((cell_far (p := ⟨gb135, _, none⟩) NB130_135.out _).trans (((cell_far (p := ⟨gb135, _, none⟩) NB130_135.out _).trans (((cell_far (p := ⟨gb135, _, none⟩) NB130_135.out _).trans (((cell_far (p := ⟨gb135, _, none⟩) NB130_135.out _).trans (((cell_far (p := ⟨gb135, _, none⟩) NB130_135.out _).trans (((cell_far (p := ⟨gb135, _, none⟩) NB130_135.out _).trans (((cell_far (p := ⟨gb135, _, none⟩) NB130_135.out _).trans (((cell_far (p := ⟨gb135, _, none⟩) NB130_135.out _).trans (((cell_far (p := ⟨gb135, _, none⟩) NB130_135.out _).trans (hHeld.2.1)))))))))))))))))))))), ((cell_far (p := ⟨gb135, _, none⟩) NB130_135.out _).trans (((cell_far (p := ⟨gb135, _, none⟩) NB130_135.out _).trans (((cell_far (p := ⟨gb135, _, none⟩) NB130_135.out _).trans (((cell_far (p := ⟨gb135, _, none⟩) NB130_135.out _).trans (((cell_far (p := ⟨gb135, _, none⟩) NB130_135.out _).trans (((cell_far (p := ⟨gb135, _, none⟩) NB130_135.out _).trans (((cell_far (p := ⟨gb135, _, none⟩) NB130_135.out _).trans (((cell_far (p := ⟨gb135, _, none⟩) NB130_135.out _).trans (((cell_far (p := ⟨gb135, _, none⟩) NB130_135.out _).trans (((cell_far (p := ⟨gb135, _, none⟩) NB130_135.out _).trans (((cell_far (p := ⟨gb135, _, none⟩) NB130_135.out _).trans (hHeld.2.2.1)))))))))))))))))))))), ((cell_far (p := ⟨gb135, _, none⟩) NB130_135.out _).trans (((cell_far (p := ⟨gb135, _, none⟩) NB130_135.out _).trans (((cell_far (p := ⟨gb135, _, none⟩) NB130_135.out _).trans (((cell_far (p := ⟨gb135, _, none⟩) NB130_135.out _).trans (((cell_far (p := ⟨gb135, _, none⟩) NB130_135.out _).trans (((cell_far (p := ⟨gb135, _, none⟩) NB130_135.out _).trans (((cell_far (p := ⟨gb135, _, none⟩) NB130_135.out _).trans (((cell_far (p := ⟨gb135, _, none⟩) NB130_135.out _).trans (((cell_far (p := ⟨gb135, _, none⟩) NB130_135.out _).trans (((cell_far (p := ⟨gb135, _, none⟩) NB130_135.out _).trans (((cell_far (p := ⟨gb135, _, none⟩) NB130_135.out _).trans (hHeld.2.2.2.1)))))))))))))))))))))), ((cell_far (p := ⟨gb135, _, none⟩) NB130_135.out _).trans (((cell_far (p := ⟨gb135, _, none⟩) NB130_135.out _).trans (((cell_far (p := ⟨gb135, _, none⟩) NB130_135.out _).trans (((cell_far (p := ⟨gb135, _, none⟩) NB130_135.out _).trans (((cell_far (p := ⟨gb135, _, none⟩) NB130_135.out _).trans (((cell_far (p := ⟨gb135, _, none⟩) NB130_135.out _).trans (((cell_far (p := ⟨gb135, _, none⟩) NB130_135.out _).trans (((cell_far (p := ⟨gb135, _, none⟩) NB130_135.out _).trans (((cell_far (p := ⟨gb135, _, none⟩) NB130_135.out _).trans (((cell_far (p := ⟨gb135, _, none⟩) NB130_135.out _).trans (((cell_far (p := ⟨gb135, _, none⟩) NB130_135.out _).trans (hHeld.2.2.2.2.1)))))))))))))))))))))), ((cell_far (p := ⟨gb135, _, none⟩) NB130_135.out _).trans (((cell_far (p := ⟨gb135, _, none⟩) NB130_135.out _).trans (((cell_far (p := ⟨gb135, _, none⟩) NB130_135.out _).trans (((cell_far (p := ⟨gb135, _, none⟩) NB130_135.out _).trans (((cell_far (p := ⟨gb135, _, none⟩) NB130_135.out _).trans (((cell_far (p := ⟨gb135, _, none⟩) NB130_135.out _).trans (((cell_far (p := ⟨gb135, _, none⟩) NB130_135.out _).trans (((cell_far (p := ⟨gb135, _, none⟩) NB130_135.out _).trans (((cell_far (p := ⟨gb135, _, none⟩) NB130_135.out _).trans (((cell_far (p := ⟨gb135, _, none⟩) NB130_135.out _).trans (((cell_far (p := ⟨gb135, _, none⟩) NB130_135.out _).trans (hHeld.2.2.2.2.2.1)))))))))))))))))))))), ((cell_far (p := ⟨gb135, _, none⟩) NB130_135.out _).trans (((cell_far (p := ⟨gb135, _, none⟩) NB130_135.out _).trans (((cell_far (p := ⟨gb135, _, none⟩) NB130_135.out _).trans (((cell_far (p := ⟨gb135, _, none⟩) NB130_135.out _).trans (((cell_far (p := ⟨gb135, _, none⟩) NB130_135.out _).trans (((cell_far (p := ⟨gb135, _, none⟩) NB130_135.out _).trans (((cell_far (p := ⟨gb135, _, none⟩) NB130_135.out _).trans (((cell_far (p := ⟨gb135, _, none⟩) NB130_135.out _).trans (((cell_far (p := ⟨gb135, _, none⟩) NB130_135.out _).trans (((cell_far (p := ⟨gb135, _, none⟩) NB130_135.out _).trans (((cell_far (p := ⟨gb135, _, none⟩) NB130_135.out _).trans (hHeld.2.2.2.2.2.2.1)))))))))))))))))))))), ((cell_far (p := ⟨gb135, _, none⟩) NB130_135.out _).trans (((cell_far (p := ⟨gb135, _, none⟩) NB130_135.out _).trans (((cell_far (p := ⟨gb135, _, none⟩) NB130_135.out _).trans (((cell_far (p := ⟨gb135, _, none⟩) NB130_135.out _).trans (((cell_far (p := ⟨gb135, _, none⟩) NB130_135.out _).trans (((cell_far (p := ⟨gb135, _, none⟩) NB130_135.out _).trans (((cell_far (p := ⟨gb135, _, none⟩) NB130_135.out _).trans (((cell_far (p := ⟨gb135, _, none⟩) NB130_135.out _).trans (((cell_far (p := ⟨gb135, _, none⟩) NB130_135.out _).trans (((cell_far (p := ⟨gb135, _, none⟩) NB130_135.out _).trans (((cell_far (p := ⟨gb135, _, none⟩) NB130_135.out _).trans (hHeld.2.2.2.2.2.2.2.1)))))))))))))))))))))), ((cell_far (p := ⟨gb135, _, none⟩) NB130_135.out _).trans (((cell_far (p := ⟨gb135, _, none⟩) NB130_135.out _).trans (((cell_far (p := ⟨gb135, _, none⟩) NB130_135.out _).trans (((cell_far (p := ⟨gb135, _, none⟩) NB130_135.out _).trans (((cell_far (p := ⟨gb135, _, none⟩) NB130_135.out _).trans (((cell_far (p := ⟨gb135, _, none⟩) NB130_135.out _).trans (((cell_far (p := ⟨gb135, _, none⟩) NB130_135.out _).trans (((cell_far (p := ⟨gb135, _, none⟩) NB130_135.out _).trans (((cell_far (p := ⟨gb135, _, none⟩) NB130_135.out _).trans (((cell_far (p := ⟨gb135, _, none⟩) NB130_135.out _).trans (((cell_far (p := ⟨gb135, _, none⟩) NB130_135.out _).trans (hHeld.2.2.2.2.2.2.2.2.1)))))))))))))))))))))), ((cell_far (p := ⟨gb135, _, none⟩) NB130_135.out _).trans (((cell_far (p := ⟨gb135, _, none⟩) NB130_135.out _).trans (((cell_far (p := ⟨gb135, _, none⟩) NB130_135.out _).trans (((cell_far (p := ⟨gb135, _, none⟩) NB130_135.out _).trans (((cell_far (p := ⟨gb135, _, none⟩) NB130_135.out _).trans (((cell_far (p := ⟨gb135, _, none⟩) NB130_135.out _).trans (((cell_far (p := ⟨gb135, _, none⟩) NB130_135.out _).trans (((cell_far (p := ⟨gb135, _, none⟩) NB130_135.out _).trans (((cell_far (p := ⟨gb135, _, none⟩) NB130_135.out _).trans (((cell_far (p := ⟨gb135, _, none⟩) NB130_135.out _).trans (((cell_far (p := ⟨gb135, _, none⟩) NB130_135.out _).trans (hHeld.2.2.2.2.2.2.2.2.2.1)))))))))))))))))))))), ((cell_far (p := ⟨gb135, _, none⟩) NB130_135.out _).trans (((cell_far (p := ⟨gb135, _, none⟩) NB130_135.out _).trans (((cell_far (p := ⟨gb135, _, none⟩) NB130_135.out _).trans (((cell_far (p := ⟨gb135, _, none⟩) NB130_135.out _).trans (((cell_far (p := ⟨gb135, _, none⟩) NB130_135.out _).trans (((cell_far (p := ⟨gb135, _, none⟩) NB130_135.out _).trans (((cell_far (p := ⟨gb135, _, none⟩) NB130_135.out _).trans (((cell_far (p := ⟨gb135, _, none⟩) NB130_135.out _).trans (((cell_far (p := ⟨gb135, _, none⟩) NB130_135.out _).trans (((cell_far (p := ⟨gb135, _, none⟩) NB130_135.out _).trans (((cell_far (p := ⟨gb135, _, none⟩) NB130_135.out _).trans (hHeld.2.2.2.2.2.2.2.2.2.2))))))))))))))))))))))⟩ (fun hHeld => ?_)
      clear hK K
      refine done_ (done_of HT_.out (by kernel_rfl)) ?_
      try go_wp2
      have n0_ : Aside0 ((((((((((((w45.setCell ⟨gb135, 0, none⟩ (.int .i64 t132)).setCell ⟨gb135, 1, none⟩ (.int .i64 t133)).setCell ⟨gb135, 2, none⟩ (.int .i64 0)).setCell ⟨gb135, 3, none⟩ (.int .i64 t134)).setCell ⟨gb135, 4, none⟩ (.int .i64 0)).setCell ⟨gb135, 5, none⟩ (.int .i64 0)).setCell ⟨gb135, 6, none⟩ (.int .i64 0)).setCell ⟨gb135, 7, none⟩ (.int .i64 0)).setCell ⟨gb135, 8, none⟩ (.int .i64 0)).setCell ⟨gb135, 9, none⟩ (.int .i64 0)).setCell ⟨gb135, 10, none⟩ (.int .i64 0)).heap[gb130]? = some (.cells #[.int .i64 a0_0, .int .i64 a0_1, .int .i64 a0_2, .int .i64 a0_3, .int .i64 a0_4, .int .i64 a0_5, .int .i64 a0_6, .int .i64 a0_7, .int .i64 a0_8, .int .i64 a0_9, .int .i64 a0_10] 35 (0, 0))) := ⟨by (with_reducible repeat (first | refine blk_drewN ?_ _ | refine blk_drew ?_ | refine blk_alloc ?_ _)); refine blk_far ?_ NB130_135.out _; (with_reducible repeat (first | refine blk_drewN ?_ _ | refine blk_drew ?_ | refine blk_alloc ?_ _)); refine blk_far ?_ NB130_135.out _; (with_reducible repeat (first | refine blk_drewN ?_ _ | refine blk_drew ?_ | refine blk_alloc ?_ _)); refine blk_far ?_ NB130_135.out _; (with_reducible repeat (first | refine blk_drewN ?_ _ | refine blk_drew ?_ | refine blk_alloc ?_ _)); refine blk_far ?_ NB130_135.out _; (with_reducible repeat (first | refine blk_drewN ?_ _ | refine blk_drew ?_ | refine blk_alloc ?_ _)); refine blk_far ?_ NB130_135.out _; (with_reducible repeat (first | refine blk_drewN ?_ _ | refine blk_drew ?_ | refine blk_alloc ?_ _)); refine blk_far ?_ NB130_135.out _; (with_reducible repeat (first | refine blk_drewN ?_ _ | refine blk_drew ?_ | refine blk_alloc ?_ _)); refine blk_far ?_ NB130_135.out _; (with_reducible repeat (first | refine blk_drewN ?_ _ | refine blk_drew ?_ | refine blk_alloc ?_ _)); refine blk_far ?_ NB130_135.out _; (with_reducible repeat (first | refine blk_drewN ?_ _ | refine blk_drew ?_ | refine blk_alloc ?_ _)); refine blk_far ?_ NB130_135.out _; (with_reducible repeat (first | refine blk_drewN ?_ _ | refine blk_drew ?_ | refine blk_alloc ?_ _)); refine blk_far ?_ NB130_135.out _; (with_reducible repeat (first | refine blk_drewN ?_ _ | refine blk_drew ?_ | refine blk_alloc ?_ _)); refine blk_far ?_ NB130_135.out _; (with_reducible repeat (first | refine blk_drewN ?_ _ | refine blk_drew ?_ | refine blk_alloc ?_ _)); exact BK130.out⟩
      have n1_ : Aside0 ((((((((((((w45.setCell ⟨gb135, 0, none⟩ (.int .i64 t132)).setCell ⟨gb135, 1, none⟩ (.int .i64 t133)).setCell ⟨gb135, 2, none⟩ (.int .i64 0)).setCell ⟨gb135, 3, none⟩ (.int .i64 t134)).setCell ⟨gb135, 4, none⟩ (.int .i64 0)).setCell ⟨gb135, 5, none⟩ (.int .i64 0)).setCell ⟨gb135, 6, none⟩ (.int .i64 0)).setCell ⟨gb135, 7, none⟩ (.int .i64 0)).setCell ⟨gb135, 8, none⟩ (.int .i64 0)).setCell ⟨gb135, 9, none⟩ (.int .i64 0)).setCell ⟨gb135, 10, none⟩ (.int .i64 0)).heap[gb131]? = some (.cells #[.int .i64 0, .int .i64 0, .int .i64 0, .int .i64 0, .int .i64 0, .int .i64 0, .int .i64 0, .int .i64 0, .int .i64 0, .int .i64 0, .int .i64 0] 35 (0, 0))) := ⟨by (with_reducible repeat (first | refine blk_drewN ?_ _ | refine blk_drew ?_ | refine blk_alloc ?_ _)); refine blk_far ?_ NB131_135.out _; (with_reducible repeat (first | refine blk_drewN ?_ _ | refine blk_drew ?_ | refine blk_alloc ?_ _)); refine blk_far ?_ NB131_135.out _; (with_reducible repeat (first | refine blk_drewN ?_ _ | refine blk_drew ?_ | refine blk_alloc ?_ _)); refine blk_far ?_ NB131_135.out _; (with_reducible repeat (first | refine blk_drewN ?_ _ | refine blk_drew ?_ | refine blk_alloc ?_ _)); refine blk_far ?_ NB131_135.out _; (with_reducible repeat (first | refine blk_drewN ?_ _ | refine blk_drew ?_ | refine blk_alloc ?_ _)); refine blk_far ?_ NB131_135.out _; (with_reducible repeat (first | refine blk_drewN ?_ _ | refine blk_drew ?_ | refine blk_alloc ?_ _)); refine blk_far ?_ NB131_135.out _; (with_reducible repeat (first | refine blk_drewN ?_ _ | refine blk_drew ?_ | refine blk_alloc ?_ _)); refine blk_far ?_ NB131_135.out _; (with_reducible repeat (first | refine blk_drewN ?_ _ | refine blk_drew ?_ | refine blk_alloc ?_ _)); refine blk_far ?_ NB131_135.out _; (with_reducible repeat (first | refine blk_drewN ?_ _ | refine blk_drew ?_ | refine blk_alloc ?_ _)); refine blk_far ?_ NB131_135.out _; (with_reducible repeat (first | refine blk_drewN ?_ _ | refine blk_drew ?_ | refine blk_alloc ?_ _)); refine blk_far ?_ NB131_135.out _; (with_reducible repeat (first | refine blk_drewN ?_ _ | refine blk_drew ?_ | refine blk_alloc ?_ _)); refine blk_far ?_ NB131_135.out _; (with_reducible repeat (first | refine blk_drewN ?_ _ | refine blk_drew ?_ | refine blk_alloc ?_ _)); exact BK131.out⟩
      have n2_ : Aside0 ((((((((((((w45.setCell ⟨gb135, 0, none⟩ (.int .i64 t132)).setCell ⟨gb135, 1, none⟩ (.int .i64 t133)).setCell ⟨gb135, 2, none⟩ (.int .i64 0)).setCell ⟨gb135, 3, none⟩ (.int .i64 t134)).setCell ⟨gb135, 4, none⟩ (.int .i64 0)).setCell ⟨gb135, 5, none⟩ (.int .i64 0)).setCell ⟨gb135, 6, none⟩ (.int .i64 0)).setCell ⟨gb135, 7, none⟩ (.int .i64 0)).setCell ⟨gb135, 8, none⟩ (.int .i64 0)).setCell ⟨gb135, 9, none⟩ (.int .i64 0)).setCell ⟨gb135, 10, none⟩ (.int .i64 0)).heap[gb135]? = some (.cells #[.int .i64 t132, .int .i64 t133, .int .i64 0, .int .i64 t134, .int .i64 0, .int .i64 0, .int .i64 0, .int .i64 0, .int .i64 0, .int .i64 0, .int .i64 0] 35 (0, 0))) := ⟨by (with_reducible repeat (first | refine blk_drewN ?_ _ | refine blk_drew ?_ | refine blk_alloc ?_ _)); refine blk_put (cs := #[.int .i64 t132, .int .i64 t133, .int .i64 0, .int .i64 t134, .int .i64 0, .int .i64 0, .int .i64 0, .int .i64 0, .int .i64 0, .int .i64 0, .int .i64 0]) ?_ 10 _ rfl; (with_reducible repeat (first | refine blk_drewN ?_ _ | refine blk_drew ?_ | refine blk_alloc ?_ _)); refine blk_put (cs := #[.int .i64 t132, .int .i64 t133, .int .i64 0, .int .i64 t134, .int .i64 0, .int .i64 0, .int .i64 0, .int .i64 0, .int .i64 0, .int .i64 0, .int .i64 0]) ?_ 9 _ rfl; (with_reducible repeat (first | refine blk_drewN ?_ _ | refine blk_drew ?_ | refine blk_alloc ?_ _)); refine blk_put (cs := #[.int .i64 t132, .int .i64 t133, .int .i64 0, .int .i64 t134, .int .i64 0, .int .i64 0, .int .i64 0, .int .i64 0, .int .i64 0, .int .i64 0, .int .i64 0]) ?_ 8 _ rfl; (with_reducible repeat (first | refine blk_drewN ?_ _ | refine blk_drew ?_ | refine blk_alloc ?_ _)); refine blk_put (cs := #[.int .i64 t132, .int .i64 t133, .int .i64 0, .int .i64 t134, .int .i64 0, .int .i64 0, .int .i64 0, .int .i64 0, .int .i64 0, .int .i64 0, .int .i64 0]) ?_ 7 _ rfl; (with_reducible repeat (first | refine blk_drewN ?_ _ | refine blk_drew ?_ | refine blk_alloc ?_ _)); refine blk_put (cs := #[.int .i64 t132, .int .i64 t133, .int .i64 0, .int .i64 t134, .int .i64 0, .int .i64 0, .int .i64 0, .int .i64 0, .int .i64 0, .int .i64 0, .int .i64 0]) ?_ 6 _ rfl; (with_reducible repeat (first | refine blk_drewN ?_ _ | refine blk_drew ?_ | refine blk_alloc ?_ _)); refine blk_put (cs := #[.int .i64 t132, .int .i64 t133, .int .i64 0, .int .i64 t134, .int .i64 0, .int .i64 0, .int .i64 0, .int .i64 0, .int .i64 0, .int .i64 0, .int .i64 0]) ?_ 5 _ rfl; (with_reducible repeat (first | refine blk_drewN ?_ _ | refine blk_drew ?_ | refine blk_alloc ?_ _)); refine blk_put (cs := #[.int .i64 t132, .int .i64 t133, .int .i64 0, .int .i64 t134, .int .i64 0, .int .i64 0, .int .i64 0, .int .i64 0, .int .i64 0, .int .i64 0, .int .i64 0]) ?_ 4 _ rfl; (with_reducible repeat (first | refine blk_drewN ?_ _ | refine blk_drew ?_ | refine blk_alloc ?_ _)); refine blk_put (cs := #[.int .i64 t132, .int .i64 t133, .int .i64 0, .int .i64 0, .int .i64 0, .int .i64 0, .int .i64 0, .int .i64 0, .int .i64 0, .int .i64 0, .int .i64 0]) ?_ 3 _ rfl; (with_reducible repeat (first | refine blk_drewN ?_ _ | refine blk_drew ?_ | refine blk_alloc ?_ _)); refine blk_put (cs := #[.int .i64 t132, .int .i64 t133, .int .i64 0, .int .i64 0, .int .i64 0, .int .i64 0, .int .i64 0, .int .i64 0, .int .i64 0, .int .i64 0, .int .i64 0]) ?_ 2 _ rfl; (with_reducible repeat (first | refine blk_drewN ?_ _ | refine blk_drew ?_ | refine blk_alloc ?_ _)); refine blk_put (cs := #[.int .i64 t132, .int .i64 0, .int .i64 0, .int .i64 0, .int .i64 0, .int .i64 0, .int .i64 0, .int .i64 0, .int .i64 0, .int .i64 0, .int .i64 0]) ?_ 1 _ rfl; (with_reducible repeat (first | refine blk_drewN ?_ _ | refine blk_drew ?_ | refine blk_alloc ?_ _)); refine blk_put (cs := #[.int .i64 0, .int .i64 0, .int .i64 0, .int .i64 0, .int .i64 0, .int .i64 0, .int .i64 0, .int .i64 0, .int .i64 0, .int .i64 0, .int .i64 0]) ?_ 0 _ rfl; (with_reducible repeat (first | refine blk_drewN ?_ _ | refine blk_drew ?_ | refine blk_alloc ?_ _)); exact BK135.out⟩
      have n3_ : Aside0 (Below w.heap.size w (((((((((((w45.setCell ⟨gb135, 0, none⟩ (.int .i64 t132)).setCell ⟨gb135, 1, none⟩ (.int .i64 t133)).setCell ⟨gb135, 2, none⟩ (.int .i64 0)).setCell ⟨gb135, 3, none⟩ (.int .i64 t134)).setCell ⟨gb135, 4, none⟩ (.int .i64 0)).setCell ⟨gb135, 5, none⟩ (.int .i64 0)).setCell ⟨gb135, 6, none⟩ (.int .i64 0)).setCell ⟨gb135, 7, none⟩ (.int .i64 0)).setCell ⟨gb135, 8, none⟩ (.int .i64 0)).setCell ⟨gb135, 9, none⟩ (.int .i64 0)).setCell ⟨gb135, 10, none⟩ (.int .i64 0))) := ⟨by repeat (first | (with_reducible first | exact HB.out | apply below_alloc | apply pw_below_drewN | apply below_drew1 | refine below_set ?_ GE130.out | refine below_set ?_ GE131.out | refine below_set ?_ GE135.out) | exact HB.out)⟩
      (try clear BK130)
      (try clear BK131)
      (try clear BK135)
      (try clear HB)
      generalize (((((((((((w45.setCell ⟨gb135, 0, none⟩ (.int .i64 t132)).setCell ⟨gb135, 1, none⟩ (.int .i64 t133)).setCell ⟨gb135, 2, none⟩ (.int .i64 0)).setCell ⟨gb135, 3, none⟩ (.int .i64 t134)).setCell ⟨gb135, 4, none⟩ (.int .i64 0)).setCell ⟨gb135, 5, none⟩ (.int .i64 0)).setCell ⟨gb135, 6, none⟩ (.int .i64 0)).setCell ⟨gb135, 7, none⟩ (.int .i64 0)).setCell ⟨gb135, 8, none⟩ (.int .i64 0)).setCell ⟨gb135, 9, none⟩ (.int .i64 0)).setCell ⟨gb135, 10, none⟩ (.int .i64 0)) = w57 at n0_ n1_ n2_ n3_ ⊢
      have BK130 := n0_
      have BK131 := n1_
      have BK135 := n2_
      have HB := n3_
      clear n0_ n1_ n2_ n3_
      have n0_ := Aside0.mk (blk_drew BK130.out)
      have n1_ := Aside0.mk (blk_drew BK131.out)
      have n2_ := Aside0.mk (blk_drew BK135.out)
      have n3_ := Aside0.mk (below_drew1 HB.out)
      clear BK130
      clear BK131
      clear BK135
      clear HB
      have BK130 := n0_
      have BK131 := n1_
      have BK135 := n2_
      have HB := n3_
      clear n0_ n1_ n2_ n3_
      refine start_ (n := 12) (S := fun w' => w'.cell? ⟨gb135, 0, none⟩ = some (.int .i64 t132) ∧ w'.cell? ⟨gb135, 1, none⟩ = some (.int .i64 t133) ∧ w'.cell? ⟨gb135, 2, none⟩ = some (.int .i64 0) ∧ w'.cell? ⟨gb135, 3, none⟩ = some (.int .i64 t134) ∧ w'.cell? ⟨gb135, 4, none⟩ = some (.int .i64 0) ∧ w'.cell? ⟨gb135, 5, none⟩ = some (.int .i64 0) ∧ w'.cell? ⟨gb135, 6, none⟩ = some (.int .i64 0) ∧ w'.cell? ⟨gb135, 7, none⟩ = some (.int .i64 0) ∧ w'.cell? ⟨gb135, 8, none⟩ = some (.int .i64 0) ∧ w'.cell? ⟨gb135, 9, none⟩ = some (.int .i64 0) ∧ w'.cell? ⟨gb135, 10, none⟩ = some (.int .i64 0) ∧ w'.cell? ⟨gb130, 0, none⟩ = some (.int .i64 a0_0) ∧ w'.cell? ⟨gb130, 1, none⟩ = some (.int .i64 a0_1) ∧ w'.cell? ⟨gb130, 2, none⟩ = some (.int .i64 a0_2) ∧ w'.cell? ⟨gb130, 3, none⟩ = some (.int .i64 a0_3) ∧ w'.cell? ⟨gb130, 4, none⟩ = some (.int .i64 a0_4) ∧ w'.cell? ⟨gb130, 5, none⟩ = some (.int .i64 a0_5) ∧ w'.cell? ⟨gb130, 6, none⟩ = some (.int .i64 a0_6) ∧ w'.cell? ⟨gb130, 7, none⟩ = some (.int .i64 a0_7) ∧ w'.cell? ⟨gb130, 8, none⟩ = some (.int .i64 a0_8) ∧ w'.cell? ⟨gb130, 9, none⟩ = some (.int .i64 a0_9) ∧ w'.cell? ⟨gb130, 10, none⟩ = some (.int .i64 a0_10)) (ds := [11]) #[false, false, false, false, false, false, false, false, false, false, false, false] (by kernel_rfl) rfl rfl ⟨(blk_cell BK135.out 0).trans rfl, (blk_cell BK135.out 1).trans rfl, (blk_cell BK135.out 2).trans rfl, (blk_cell BK135.out 3).trans rfl, (blk_cell BK135.out 4).trans rfl, (blk_cell BK135.out 5).trans rfl, (blk_cell BK135.out 6).trans rfl, (blk_cell BK135.out 7).trans rfl, (blk_cell BK135.out 8).trans rfl, (blk_cell BK135.out 9).trans rfl, (blk_cell BK135.out 10).trans rfl, (blk_cell BK130.out 0).trans rfl, (blk_cell BK130.out 1).trans rfl, (blk_cell BK130.out 2).trans rfl, (blk_cell BK130.out 3).trans rfl, (blk_cell BK130.out 4).trans rfl, (blk_cell BK130.out 5).trans rfl, (blk_cell BK130.out 6).trans rfl, (blk_cell BK130.out 7).trans rfl, (blk_cell BK130.out 8).trans rfl, (blk_cell BK130.out 9).trans rfl, (blk_cell BK130.out 10).trans rfl⟩ (fun hHeld => ?_); refine with_tabW empennageref04_channel.tab2 empennageref04_channel.bits2 (fun HT_ HW_ => ?_)
      generalize w57.drew = w58 at BK130 BK131 BK135 HB hHeld ⊢
      refine pure_ (i := 0) (N := some 17) (v := ?_) (a' := ?_) #[true, false, false, false, false, false, false, false, false, false, false, false] rfl rfl (any_of HT_.out (by kernel_rfl)) (fun _ _ _ h => h) (Or.inl ⟨by rfl, ?_⟩) ?_ ?_
      rotate_left
      · intro w'
        go_simp
        with_reducible rfl
      rotate_left
      · simp only [Act.put, List.setIfInBounds_toArray, List.set_cons_zero, List.set_cons_succ, i64_w, i32_w]
        rfl
      refine pure_ (i := 2) (N := some 19) (v := ?_) (a' := ?_) #[true, false, true, false, false, false, false, false, false, false, false, false] rfl rfl (any_of HT_.out (by kernel_rfl)) (fun _ _ _ h => h) (Or.inl ⟨by rfl, ?_⟩) ?_ ?_
      rotate_left
      · intro w'
        go_simp
        with_reducible rfl
      rotate_left
      · simp only [Act.put, List.setIfInBounds_toArray, List.set_cons_zero, List.set_cons_succ, i64_w, i32_w]
        rfl
      refine pure_ (i := 4) (N := some 21) (v := ?_) (a' := ?_) #[true, false, true, false, true, false, false, false, false, false, false, false] rfl rfl (any_of HT_.out (by kernel_rfl)) (fun _ _ _ h => h) (Or.inl ⟨by rfl, ?_⟩) ?_ ?_
      rotate_left
      · intro w'
        go_simp
        with_reducible rfl
      rotate_left
      · simp only [Act.put, List.setIfInBounds_toArray, List.set_cons_zero, List.set_cons_succ, i64_w, i32_w]
        rfl
      refine pure_ (i := 5) (N := some 22) (v := ?_) (a' := ?_) #[true, false, true, false, true, true, false, false, false, false, false, false] rfl rfl (any_of HT_.out (by kernel_rfl)) (fun _ _ _ h => h) (Or.inl ⟨by rfl, ?_⟩) ?_ ?_
      rotate_left
      · intro w'
        go_simp
        with_reducible rfl
      rotate_left
      · simp only [Act.put, List.setIfInBounds_toArray, List.set_cons_zero, List.set_cons_succ, i64_w, i32_w]
        rfl
      refine pure_ (i := 8) (N := some 25) (v := ?_) (a' := ?_) #[true, false, true, false, true, true, false, false, true, false, false, false] rfl rfl (any_of HT_.out (by kernel_rfl)) (fun _ _ _ h => h) (Or.inl ⟨by rfl, ?_⟩) ?_ ?_
      rotate_left
      · intro w'
        go_simp
        with_reducible rfl
      rotate_left
      · simp only [Act.put, List.setIfInBounds_toArray, List.set_cons_zero, List.set_cons_succ, i64_w, i32_w]
        rfl
      refine take_ (i := 1) (N := some 18) (v := ?_) (a' := ?_) #[true, true, true, false, true, true, false, false, true, false, false, false] rfl rfl (take_ofW HT_.out HW_.out (by kernel_rfl)) (fun _ _ _ h => h) (Or.inl ⟨by rfl, ?_⟩) hHeld ?_ ?_
      rotate_left
      · rintro w' ⟨s0, s1, s2, s3, s4, s5, s6, s7, s8, s9, s10, s11, s12, s13, s14, s15, s16, s17, s18, s19, s20, s21⟩
        go_simp
        with_reducible rfl
      rotate_left
      · simp only [Act.put, List.setIfInBounds_toArray, List.set_cons_zero, List.set_cons_succ, i64_w, i32_w]
        rfl
      refine take_ (i := 3) (N := some 20) (v := ?_) (a' := ?_) #[true, true, true, true, true, true, false, false, true, false, false, false] rfl rfl (take_ofW HT_.out HW_.out (by kernel_rfl)) (fun _ _ _ h => h) (Or.inl ⟨by rfl, ?_⟩) hHeld ?_ ?_
      rotate_left
      · rintro w' ⟨s0, s1, s2, s3, s4, s5, s6, s7, s8, s9, s10, s11, s12, s13, s14, s15, s16, s17, s18, s19, s20, s21⟩
        go_simp
        with_reducible rfl
      rotate_left
      · simp only [Act.put, List.setIfInBounds_toArray, List.set_cons_zero, List.set_cons_succ, i64_w, i32_w]
        rfl
      refine one_ (i := 6) (N := some 23) #[true, true, true, true, true, true, true, false, true, false, false, false] rfl rfl (one_of HT_.out (by kernel_rfl)) (by decide) (fun K hK => ?_)
      refine goes_ Tryd.func23 (by kernel_rfl) rfl #[.int .i64 a0_2, .int .i64 1, .int .i64 (wrap64 (a1 - 1))] (by rfl) rfl rfl (by (try simp only [List.map_toArray, List.map_cons, List.map_nil]); first | done | rfl | (simp only [List.length_drop, List.length_take]; rfl)) ?_
      with_reducible refine (empennageref04_near.calls a0_2 1 (wrap64 (a1 - 1)) t136 _ A6.out).mono ?_
      rintro e w' ⟨rfl, ⟨nd, rfl⟩⟩
      refine ⟨_, rfl, ?_⟩
      refine hK.out _ _ ⟨(blk_cell BK135.out 0).trans rfl, (blk_cell BK135.out 1).trans rfl, (blk_cell BK135.out 2).trans rfl, (blk_cell BK135.out 3).trans rfl, (blk_cell BK135.out 4).trans rfl, (blk_cell BK135.out 5).trans rfl, (blk_cell BK135.out 6).trans rfl, (blk_cell BK135.out 7).trans rfl, (blk_cell BK135.out 8).trans rfl, (blk_cell BK135.out 9).trans rfl, (blk_cell BK135.out 10).trans rfl, (blk_cell BK130.out 0).trans rfl, (blk_cell BK130.out 1).trans rfl, (blk_cell BK130.out 2).trans rfl, (blk_cell BK130.out 3).trans rfl, (blk_cell BK130.out 4).trans rfl, (blk_cell BK130.out 5).trans rfl, (blk_cell BK130.out 6).trans rfl, (blk_cell BK130.out 7).trans rfl, (blk_cell BK130.out 8).trans rfl, (blk_cell BK130.out 9).trans rfl, (blk_cell BK130.out 10).trans rfl⟩ (fun hHeld => ?_)
      clear hK K
      refine norm_ (a' := ?_) ?_ ?_
      rotate_left
      · show Act.put _ (some 23) _ = _
        simp only [Act.put, List.setIfInBounds_toArray, List.set_cons_zero, List.set_cons_succ, i64_w, i32_w]
        rfl
      refine pure_ (i := 7) (N := some 24) (v := ?_) (a' := ?_) #[true, true, true, true, true, true, true, true, true, false, false, false] rfl rfl (any_of HT_.out (by kernel_rfl)) (fun _ _ _ h => h) (Or.inl ⟨by rfl, ?_⟩) ?_ ?_
      rotate_left
      · intro w'
        go_simp
        with_reducible rfl
      rotate_left
      · simp only [Act.put, List.setIfInBounds_toArray, List.set_cons_zero, List.set_cons_succ, i64_w, i32_w]
        rfl
      refine pure_ (i := 9) (N := some 26) (v := ?_) (a' := ?_) #[true, true, true, true, true, true, true, true, true, true, false, false] rfl rfl (any_of HT_.out (by kernel_rfl)) (fun _ _ _ h => h) (Or.inl ⟨by rfl, ?_⟩) ?_ ?_
      rotate_left
      · intro w'
        go_simp
        with_reducible rfl
      rotate_left
      · simp only [Act.put, List.setIfInBounds_toArray, List.set_cons_zero, List.set_cons_succ, i64_w, i32_w]
        rfl
      refine pure_ (i := 10) (N := some 27) (v := ?_) (a' := ?_) #[true, true, true, true, true, true, true, true, true, true, true, false] rfl rfl (any_of HT_.out (by kernel_rfl)) (fun _ _ _ h => h) (Or.inl ⟨by rfl, ?_⟩) ?_ ?_
      rotate_left
      · intro w'
        go_simp
        with_reducible rfl
      rotate_left
      · simp only [Act.put, List.setIfInBounds_toArray, List.set_cons_zero, List.set_cons_succ, i64_w, i32_w]
        rfl
      refine last_ (i := 11) (N := none) #[true, true, true, true, true, true, true, true, true, true, true, true] rfl rfl (one_of HT_.out (by kernel_rfl)) (by decide) (fun K hK => ?_)
      have hs59 : w58.cell? ⟨gb135, 2, none⟩ = some (.int .i64 0) := (blk_cell BK135.out 2).trans rfl
      have hfs59 := blk_frozen BK135.out 2
      have hns59_0 := NB130_135.out
      have hns59_1 := NB131_135.out
      have hms59_0 := NB135_130.out
      have hms59_1 := NB135_131.out
      refine skip_ (w1 := ?_) (by rfl) rfl ?_ ?_
      rotate_left
      · go_simp
        rfl
      refine hK.out _ _ ?_
      clear hK K
      refine done_ (done_of HT_.out (by kernel_rfl)) ?_
      have hnb60 := NB135_130.out
      have hnc60 := NB130_135.out
      have hnb61 := NB135_131.out
      have hnc61 := NB131_135.out
      have hcz62_0 : w58.cell? ⟨gb135, 0, none⟩ = some (.int .i64 t132) := (blk_cell BK135.out 0).trans rfl
      have hcz62_1 : w58.cell? ⟨gb135, 1, none⟩ = some (.int .i64 t133) := (blk_cell BK135.out 1).trans rfl
      have hcz62_2 : w58.cell? ⟨gb135, 2, none⟩ = some (.int .i64 0) := (blk_cell BK135.out 2).trans rfl
      have hcz62_3 : w58.cell? ⟨gb135, 3, none⟩ = some (.int .i64 t134) := (blk_cell BK135.out 3).trans rfl
      have hcz62_4 : w58.cell? ⟨gb135, 4, none⟩ = some (.int .i64 0) := (blk_cell BK135.out 4).trans rfl
      have hcz62_5 : w58.cell? ⟨gb135, 5, none⟩ = some (.int .i64 0) := (blk_cell BK135.out 5).trans rfl
      have hcz62_6 : w58.cell? ⟨gb135, 6, none⟩ = some (.int .i64 0) := (blk_cell BK135.out 6).trans rfl
      have hcz62_7 : w58.cell? ⟨gb135, 7, none⟩ = some (.int .i64 0) := (blk_cell BK135.out 7).trans rfl
      have hcz62_8 : w58.cell? ⟨gb135, 8, none⟩ = some (.int .i64 0) := (blk_cell BK135.out 8).trans rfl
      have hcz62_9 : w58.cell? ⟨gb135, 9, none⟩ = some (.int .i64 0) := (blk_cell BK135.out 9).trans rfl
      have hcz62_10 : w58.cell? ⟨gb135, 10, none⟩ = some (.int .i64 0) := (blk_cell BK135.out 10).trans rfl
      have hfz62_0 := blk_frozen BK135.out 0
      have hfz62_1 := blk_frozen BK135.out 1
      have hfz62_2 := blk_frozen BK135.out 2
      have hfz62_3 := blk_frozen BK135.out 3
      have hfz62_4 := blk_frozen BK135.out 4
      have hfz62_5 := blk_frozen BK135.out 5
      have hfz62_6 := blk_frozen BK135.out 6
      have hfz62_7 := blk_frozen BK135.out 7
      have hfz62_8 := blk_frozen BK135.out 8
      have hfz62_9 := blk_frozen BK135.out 9
      have hfz62_10 := blk_frozen BK135.out 10
      have hnb63 := NB130_131.out
      have hnc63 := NB131_130.out
      have hcz64_0 : w58.cell? ⟨gb130, 0, none⟩ = some (.int .i64 a0_0) := (blk_cell BK130.out 0).trans rfl
      have hcz64_1 : w58.cell? ⟨gb130, 1, none⟩ = some (.int .i64 a0_1) := (blk_cell BK130.out 1).trans rfl
      have hcz64_2 : w58.cell? ⟨gb130, 2, none⟩ = some (.int .i64 a0_2) := (blk_cell BK130.out 2).trans rfl
      have hcz64_3 : w58.cell? ⟨gb130, 3, none⟩ = some (.int .i64 a0_3) := (blk_cell BK130.out 3).trans rfl
      have hcz64_4 : w58.cell? ⟨gb130, 4, none⟩ = some (.int .i64 a0_4) := (blk_cell BK130.out 4).trans rfl
      have hcz64_5 : w58.cell? ⟨gb130, 5, none⟩ = some (.int .i64 a0_5) := (blk_cell BK130.out 5).trans rfl
      have hcz64_6 : w58.cell? ⟨gb130, 6, none⟩ = some (.int .i64 a0_6) := (blk_cell BK130.out 6).trans rfl
      have hcz64_7 : w58.cell? ⟨gb130, 7, none⟩ = some (.int .i64 a0_7) := (blk_cell BK130.out 7).trans rfl
      have hcz64_8 : w58.cell? ⟨gb130, 8, none⟩ = some (.int .i64 a0_8) := (blk_cell BK130.out 8).trans rfl
      have hcz64_9 : w58.cell? ⟨gb130, 9, none⟩ = some (.int .i64 a0_9) := (blk_cell BK130.out 9).trans rfl
      have hcz64_10 : w58.cell? ⟨gb130, 10, none⟩ = some (.int .i64 a0_10) := (blk_cell BK130.out 10).trans rfl
      have hfz64_0 := blk_frozen BK130.out 0
      have hfz64_1 := blk_frozen BK130.out 1
      have hfz64_2 := blk_frozen BK130.out 2
      have hfz64_3 := blk_frozen BK130.out 3
      have hfz64_4 := blk_frozen BK130.out 4
      have hfz64_5 := blk_frozen BK130.out 5
      have hfz64_6 := blk_frozen BK130.out 6
      have hfz64_7 := blk_frozen BK130.out 7
      have hfz64_8 := blk_frozen BK130.out 8
      have hfz64_9 := blk_frozen BK130.out 9
      have hfz64_10 := blk_frozen BK130.out 10
      try go_wp2_with (first | ((with_reducible refine gate_callee (f := 23) rfl ?_); refine goesL_ (some 38) rfl rfl Tryd.func23 (by kernel_rfl) rfl #[.int .i64 a0_5, .int .i64 1, .int .i64 3] rfl (by (try simp only [List.map_toArray, List.map_cons, List.map_nil]); first | done | rfl | (simp only [List.length_drop, List.length_take]; rfl)) ?_; (with_reducible refine (empennageref04_near.calls a0_5 1 3 t138 _ A35.out).mono ?_); rintro e w' ⟨rfl, ⟨nd, rfl⟩⟩; refine ⟨_, rfl, ?_⟩) | ((with_reducible refine gate_callee (f := 23) rfl ?_); refine goesL_ (some 42) rfl rfl Tryd.func23 (by kernel_rfl) rfl #[.int .i64 a0_6, .int .i64 1, .int .i64 4] rfl (by (try simp only [List.map_toArray, List.map_cons, List.map_nil]); first | done | rfl | (simp only [List.length_drop, List.length_take]; rfl)) ?_; (with_reducible refine (empennageref04_near.calls a0_6 1 4 t139 _ A36.out).mono ?_); rintro e w' ⟨rfl, ⟨nd, rfl⟩⟩; refine ⟨_, rfl, ?_⟩) | ((with_reducible refine gate_callee (f := 23) rfl ?_); refine goesL_ (some 46) rfl rfl Tryd.func23 (by kernel_rfl) rfl #[.int .i64 a0_7, .int .i64 1, .int .i64 4] rfl (by (try simp only [List.map_toArray, List.map_cons, List.map_nil]); first | done | rfl | (simp only [List.length_drop, List.length_take]; rfl)) ?_; (with_reducible refine (empennageref04_near.calls a0_7 1 4 t140 _ A37.out).mono ?_); rintro e w' ⟨rfl, ⟨nd, rfl⟩⟩; refine ⟨_, rfl, ?_⟩) | ((with_reducible refine gate_callee (f := 23) rfl ?_); refine goesL_ (some 50) rfl rfl Tryd.func23 (by kernel_rfl) rfl #[.int .i64 a0_8, .int .i64 1, .int .i64 60] rfl (by (try simp only [List.map_toArray, List.map_cons, List.map_nil]); first | done | rfl | (simp only [List.length_drop, List.length_take]; rfl)) ?_; (with_reducible refine (empennageref04_near.calls a0_8 1 60 t141 _ A38.out).mono ?_); rintro e w' ⟨rfl, ⟨nd, rfl⟩⟩; refine ⟨_, rfl, ?_⟩) | ((with_reducible refine gate_callee (f := 23) rfl ?_); refine goesL_ (some 54) rfl rfl Tryd.func23 (by kernel_rfl) rfl #[.int .i64 a0_9, .int .i64 0, .int .i64 5] rfl (by (try simp only [List.map_toArray, List.map_cons, List.map_nil]); first | done | rfl | (simp only [List.length_drop, List.length_take]; rfl)) ?_; (with_reducible refine (empennageref04_near.calls a0_9 0 5 t142 _ A39.out).mono ?_); rintro e w' ⟨rfl, ⟨nd, rfl⟩⟩; refine ⟨_, rfl, ?_⟩) | ((with_reducible refine gate_callee (f := 23) rfl ?_); refine goesL_ (some 58) rfl rfl Tryd.func23 (by kernel_rfl) rfl #[.int .i64 a0_10, .int .i64 1, .int .i64 6] rfl (by (try simp only [List.map_toArray, List.map_cons, List.map_nil]); first | done | rfl | (simp only [List.length_drop, List.length_take]; rfl)) ?_; (with_reducible refine (empennageref04_near.calls a0_10 1 6 t143 _ A40.out).mono ?_); rintro e w' ⟨rfl, ⟨nd, rfl⟩⟩; refine ⟨_, rfl, ?_⟩; have hcz65_0 : w58.cell? ⟨gb131, 0, none⟩ = some (.int .i64 0) := (blk_cell BK131.out 0).trans rfl; have hcz65_1 : w58.cell? ⟨gb131, 1, none⟩ = some (.int .i64 0) := (blk_cell BK131.out 1).trans rfl; have hcz65_2 : w58.cell? ⟨gb131, 2, none⟩ = some (.int .i64 0) := (blk_cell BK131.out 2).trans rfl; have hcz65_3 : w58.cell? ⟨gb131, 3, none⟩ = some (.int .i64 0) := (blk_cell BK131.out 3).trans rfl; have hcz65_4 : w58.cell? ⟨gb131, 4, none⟩ = some (.int .i64 0) := (blk_cell BK131.out 4).trans rfl; have hcz65_5 : w58.cell? ⟨gb131, 5, none⟩ = some (.int .i64 0) := (blk_cell BK131.out 5).trans rfl; have hcz65_6 : w58.cell? ⟨gb131, 6, none⟩ = some (.int .i64 0) := (blk_cell BK131.out 6).trans rfl; have hcz65_7 : w58.cell? ⟨gb131, 7, none⟩ = some (.int .i64 0) := (blk_cell BK131.out 7).trans rfl; have hcz65_8 : w58.cell? ⟨gb131, 8, none⟩ = some (.int .i64 0) := (blk_cell BK131.out 8).trans rfl; have hcz65_9 : w58.cell? ⟨gb131, 9, none⟩ = some (.int .i64 0) := (blk_cell BK131.out 9).trans rfl; have hcz65_10 : w58.cell? ⟨gb131, 10, none⟩ = some (.int .i64 0) := (blk_cell BK131.out 10).trans rfl; have hfz65_0 := blk_frozen BK131.out 0; have hfz65_1 := blk_frozen BK131.out 1; have hfz65_2 := blk_frozen BK131.out 2; have hfz65_3 := blk_frozen BK131.out 3; have hfz65_4 := blk_frozen BK131.out 4; have hfz65_5 := blk_frozen BK131.out 5; have hfz65_6 := blk_frozen BK131.out 6; have hfz65_7 := blk_frozen BK131.out 7; have hfz65_8 := blk_frozen BK131.out 8; have hfz65_9 := blk_frozen BK131.out 9; have hfz65_10 := blk_frozen BK131.out 10))
      refine bodyPost_ret (results_cell_row rfl _ _ gb131 35 #[.int .i64 t132, .int .i64 t133, .int .i64 (Int.tmod (wrap64 (t133 + t136)) a1), .int .i64 t134, .int .i64 0, .int .i64 t138, .int .i64 t139, .int .i64 t140, .int .i64 t141, .int .i64 t142, .int .i64 t143] (0, 0) _ rfl (by (with_reducible repeat (first | refine blk_drewN ?_ _ | refine blk_drew ?_ | refine blk_alloc ?_ _)); refine blk_put (cs := #[.int .i64 t132, .int .i64 t133, .int .i64 (Int.tmod (wrap64 (t133 + t136)) a1), .int .i64 t134, .int .i64 0, .int .i64 t138, .int .i64 t139, .int .i64 t140, .int .i64 t141, .int .i64 t142, .int .i64 0]) ?_ 10 _ rfl; (with_reducible repeat (first | refine blk_drewN ?_ _ | refine blk_drew ?_ | refine blk_alloc ?_ _)); refine blk_put (cs := #[.int .i64 t132, .int .i64 t133, .int .i64 (Int.tmod (wrap64 (t133 + t136)) a1), .int .i64 t134, .int .i64 0, .int .i64 t138, .int .i64 t139, .int .i64 t140, .int .i64 t141, .int .i64 0, .int .i64 0]) ?_ 9 _ rfl; (with_reducible repeat (first | refine blk_drewN ?_ _ | refine blk_drew ?_ | refine blk_alloc ?_ _)); refine blk_put (cs := #[.int .i64 t132, .int .i64 t133, .int .i64 (Int.tmod (wrap64 (t133 + t136)) a1), .int .i64 t134, .int .i64 0, .int .i64 t138, .int .i64 t139, .int .i64 t140, .int .i64 0, .int .i64 0, .int .i64 0]) ?_ 8 _ rfl; (with_reducible repeat (first | refine blk_drewN ?_ _ | refine blk_drew ?_ | refine blk_alloc ?_ _)); refine blk_put (cs := #[.int .i64 t132, .int .i64 t133, .int .i64 (Int.tmod (wrap64 (t133 + t136)) a1), .int .i64 t134, .int .i64 0, .int .i64 t138, .int .i64 t139, .int .i64 0, .int .i64 0, .int .i64 0, .int .i64 0]) ?_ 7 _ rfl; (with_reducible repeat (first | refine blk_drewN ?_ _ | refine blk_drew ?_ | refine blk_alloc ?_ _)); refine blk_put (cs := #[.int .i64 t132, .int .i64 t133, .int .i64 (Int.tmod (wrap64 (t133 + t136)) a1), .int .i64 t134, .int .i64 0, .int .i64 t138, .int .i64 0, .int .i64 0, .int .i64 0, .int .i64 0, .int .i64 0]) ?_ 6 _ rfl; (with_reducible repeat (first | refine blk_drewN ?_ _ | refine blk_drew ?_ | refine blk_alloc ?_ _)); refine blk_put (cs := #[.int .i64 t132, .int .i64 t133, .int .i64 (Int.tmod (wrap64 (t133 + t136)) a1), .int .i64 t134, .int .i64 0, .int .i64 0, .int .i64 0, .int .i64 0, .int .i64 0, .int .i64 0, .int .i64 0]) ?_ 5 _ rfl; (with_reducible repeat (first | refine blk_drewN ?_ _ | refine blk_drew ?_ | refine blk_alloc ?_ _)); refine blk_put (cs := #[.int .i64 t132, .int .i64 t133, .int .i64 (Int.tmod (wrap64 (t133 + t136)) a1), .int .i64 t134, .int .i64 0, .int .i64 0, .int .i64 0, .int .i64 0, .int .i64 0, .int .i64 0, .int .i64 0]) ?_ 4 _ rfl; (with_reducible repeat (first | refine blk_drewN ?_ _ | refine blk_drew ?_ | refine blk_alloc ?_ _)); refine blk_put (cs := #[.int .i64 t132, .int .i64 t133, .int .i64 (Int.tmod (wrap64 (t133 + t136)) a1), .int .i64 0, .int .i64 0, .int .i64 0, .int .i64 0, .int .i64 0, .int .i64 0, .int .i64 0, .int .i64 0]) ?_ 3 _ rfl; (with_reducible repeat (first | refine blk_drewN ?_ _ | refine blk_drew ?_ | refine blk_alloc ?_ _)); refine blk_put (cs := #[.int .i64 t132, .int .i64 t133, .int .i64 0, .int .i64 0, .int .i64 0, .int .i64 0, .int .i64 0, .int .i64 0, .int .i64 0, .int .i64 0, .int .i64 0]) ?_ 2 _ rfl; (with_reducible repeat (first | refine blk_drewN ?_ _ | refine blk_drew ?_ | refine blk_alloc ?_ _)); refine blk_put (cs := #[.int .i64 t132, .int .i64 0, .int .i64 0, .int .i64 0, .int .i64 0, .int .i64 0, .int .i64 0, .int .i64 0, .int .i64 0, .int .i64 0, .int .i64 0]) ?_ 1 _ rfl; (with_reducible repeat (first | refine blk_drewN ?_ _ | refine blk_drew ?_ | refine blk_alloc ?_ _)); refine blk_put (cs := #[.int .i64 0, .int .i64 0, .int .i64 0, .int .i64 0, .int .i64 0, .int .i64 0, .int .i64 0, .int .i64 0, .int .i64 0, .int .i64 0, .int .i64 0]) ?_ 0 _ rfl; (with_reducible repeat (first | refine blk_drewN ?_ _ | refine blk_drew ?_ | refine blk_alloc ?_ _)); refine blk_far ?_ NB131_135.out _; (with_reducible repeat (first | refine blk_drewN ?_ _ | refine blk_drew ?_ | refine blk_alloc ?_ _)); refine blk_far ?_ NB131_135.out _; (with_reducible repeat (first | refine blk_drewN ?_ _ | refine blk_drew ?_ | refine blk_alloc ?_ _)); refine blk_far ?_ NB131_135.out _; (with_reducible repeat (first | refine blk_drewN ?_ _ | refine blk_drew ?_ | refine blk_alloc ?_ _)); refine blk_far ?_ NB131_135.out _; (with_reducible repeat (first | refine blk_drewN ?_ _ | refine blk_drew ?_ | refine blk_alloc ?_ _)); refine blk_far ?_ NB131_135.out _; (with_reducible repeat (first | refine blk_drewN ?_ _ | refine blk_drew ?_ | refine blk_alloc ?_ _)); refine blk_far ?_ NB131_135.out _; (with_reducible repeat (first | refine blk_drewN ?_ _ | refine blk_drew ?_ | refine blk_alloc ?_ _)); refine blk_far ?_ NB131_135.out _; (with_reducible repeat (first | refine blk_drewN ?_ _ | refine blk_drew ?_ | refine blk_alloc ?_ _)); exact BK131.out) Tryd.underlying35 rfl (by kernel_rfl)) rfl ?_
      exact ⟨by first | rfl | (simp [errW_none, errW_some] <;> rfl) | (simp [*, errW_none, errW_some] <;> rfl), by repeat (first | (with_reducible first | exact HB.out | apply below_alloc | apply pw_below_drewN | apply below_drew1 | refine below_set ?_ GE130.out | refine below_set ?_ GE131.out | refine below_set ?_ GE135.out) | exact HB.out)⟩

end Go.Proofs.YtehcgojcmcahnaaDoor.PConfigPaths
