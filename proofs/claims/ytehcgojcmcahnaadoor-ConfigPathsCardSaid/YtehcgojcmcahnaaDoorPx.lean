-- Functions of the reference as the kit's printer wrote them (law ConfigPaths), laid into one text by wip/pxfix.py.
import Derived.Test.YtehcgojcmcahnaaDoorPConfigSamex0
import Derived.Test.YtehcgojcmcahnaaDoorRm
namespace Go.Proofs.YtehcgojcmcahnaaDoor.PConfigSame
open Go.RowKit Go.Proofs.YtehcgojcmcahnaaDoorW.PrintWords Go.Proofs.YtehcgojcmcahnaaDoorW.PrintLast Go.Proofs.YtehcgojcmcahnaaDoorW.PrintMore
attribute [local go_sem] max2_int min2_int max_two min_two max_three min_three max_four min_four   -- for this text's walks alone
set_option linter.unusedVariables false
set_option linter.unusedSimpArgs false
theorem info4 : (Tryd.prog.info? 4).map (fun i => (i.zero, i.size, i.bytes)) = some (some (.bool false), 1, 1) := by kernel_rfl
/-! ### empennageref04_May: by hand -/
def empennageref04_May.f (k : Nat) (a0_0 : Int) (a0_1 : Int) (l0_2 : List (S33)) (l0_3 : List (S35)) (l0_4 : List Int) : Option (Bool) := if l0_2.length ≤ 1000 then (if l0_3.length ≤ 1000 then (if l0_4.length ≤ 1000 then some (Cf.mayB ⟨a0_0, a0_1, l0_2, l0_3, l0_4⟩) else none) else none) else none
theorem empennageref04_May.mono : ∀ a0 a1 a2 a3 a4 k, LeO (empennageref04_May.f k a0 a1 a2 a3 a4) (empennageref04_May.f (k + 1) a0 a1 a2 a3 a4) := fun _ _ _ _ _ _ => LeO.refl _
theorem empennageref04_May.calls (k : Nat) (a0_0 : Int) (a0_1 : Int) (A0_2 : Option Addr) (c0_2 : Nat) (l0_2 : List (S33)) (A0_3 : Option Addr) (c0_3 : Nat) (l0_3 : List (S35)) (A0_4 : Option Addr) (c0_4 : Nat) (l0_4 : List Int) (r : Bool) (w : World) (hr0_2 : Kd.C k33 w A0_2 l0_2.length l0_2) (hc0_2 : l0_2.length ≤ c0_2) (hr0_3 : Kd.C k35 w A0_3 l0_3.length l0_3) (hc0_3 : l0_3.length ≤ c0_3) (hr0_4 : Kd.C (Kd.int .i64) w A0_4 l0_4.length l0_4) (hc0_4 : l0_4.length ≤ c0_4) (h : empennageref04_May.f k a0_0 a0_1 l0_2 l0_3 l0_4 = some r) :
    Calls Tryd.prog 32 #[.agg #[.int .i64 a0_0, .int .i64 a0_1, .slice A0_2 l0_2.length c0_2, .slice A0_3 l0_3.length c0_3, .slice A0_4 l0_4.length c0_4]] w fun e w' => e = .returned (.bool r) ∧ Below w.heap.size w w' := by
  unfold empennageref04_May.f at h
  split at h
  · split at h
    · split at h
      · rename_i h2 h3 h4
        obtain rfl := Option.some.inj h
        exact Cf.rmay_any (C := ⟨a0_0, a0_1, l0_2, l0_3, l0_4⟩) ⟨hr0_2, hc0_2, hr0_3, hc0_3, hr0_4, hc0_4⟩ h2 h3 h4
      · cases h
    · cases h
  · cases h

/-! ### empennageref04_in: function 33 -/
def empennageref04_in.f (a0 : Int) (a1 : Int) (a2 : Int) : Option (Bool) := if a0 ≥ a1 then (some (decide (a0 ≤ a2))) else (some false)
set_option maxHeartbeats 8000000 in
set_option maxRecDepth 100000 in
theorem empennageref04_in.calls (a0 : Int) (a1 : Int) (a2 : Int) (r : Bool) (w : World) (h : empennageref04_in.f a0 a1 a2 = some r) :
    Calls Tryd.prog 33 #[.int .i64 a0, .int .i64 a1, .int .i64 a2] w fun e w' => e = .returned (.bool r) ∧ Drawn0 w w' := by
  have H : (if a0 ≥ a1 then (some (decide (a0 ≤ a2))) else (some false)) = some r := h
  clear h
  by_cases c4 : a0 ≥ a1
  · rw [if_pos c4] at H
    have c4b0 : decide (a1 ≤ a0) = true := decide_eq_true c4
    clear c4
    obtain rfl := Option.some.inj H
    go_enter Tryd.func33, Tryd.ntmps33
    go_wp2
    go_ret
    exact ⟨by first | rfl | (simp; done) | (simp [*]; done), by repeat (first | exact Drawn0.refl _ | apply Drawn0.step)⟩
  · rw [if_neg c4] at H
    have c4b0 : decide (a1 ≤ a0) = false := decide_eq_false c4
    clear c4
    obtain rfl := Option.some.inj H
    go_enter Tryd.func33, Tryd.ntmps33
    go_wp2
    go_ret
    exact ⟨by first | rfl | (simp; done) | (simp [*]; done), by repeat (first | exact Drawn0.refl _ | apply Drawn0.step)⟩
/-! ### empennageref04_Path: function 16 -/
mutual
def empennageref04_Path.j0 : Nat → Int → Int → Bool → Int → Int → List (S33) → List (S35) → List Int → Option (Bool)
  | 0, _, _, _, _, _, _, _, _ => none
  | k + 1, x1, x2, x30, x229000, x229001, x229002, x229003, x229004 => if x30 = true then (some false) else (if 0 ≤ x229000 then (if (x229000 : Int).toNat ≤ 281474976710656 then ((some (List.replicate (x229000 : Int).toNat false : List Bool)).bind fun y232 => (if 0 ≤ x1 then (if x1 < (y232.length : Int) then (empennageref04_Path.l0 k x2 (y232.set (x1 : Int).toNat true) 0 x229000 x229001 x229002 x229003 x229004) else (none)) else (none))) else (none)) else (none))
def empennageref04_Path.l0 : Nat → Int → List Bool → Int → Int → Int → List (S33) → List (S35) → List Int → Option (Bool)
  | 0, _, _, _, _, _, _, _, _ => none
  | k + 1, x2, x8, x9, x229000, x229001, x229002, x229003, x229004 => if x9 < 4 then (empennageref04_Path.l1 k x2 x8 x9 0 x229000 x229001 x229002 x229003 x229004) else (if 0 ≤ x2 then (if x2 < (x8.length : Int) then (some (rdOf false x8 x2)) else (none)) else (none))
def empennageref04_Path.l1 : Nat → Int → List Bool → Int → Int → Int → Int → List (S33) → List (S35) → List Int → Option (Bool)
  | 0, _, _, _, _, _, _, _, _, _ => none
  | k + 1, x2, x8, x9, x10, x229000, x229001, x229002, x229003, x229004 => if x10 < (x229003.length : Int) then (if 0 ≤ x10 then (if 0 ≤ ((rd_T35 x229003 x10).f1) then (if ((rd_T35 x229003 x10).f1) < (x8.length : Int) then (if rdOf false x8 ((rd_T35 x229003 x10).f1) = true then (if 0 ≤ ((rd_T35 x229003 x10).f2) then (if ((rd_T35 x229003 x10).f2) < (x8.length : Int) then (empennageref04_Path.l1 k x2 (x8.set (((rd_T35 x229003 x10).f2) : Int).toNat true) x9 (wrap64 (x10 + 1)) x229000 x229001 x229002 x229003 x229004) else (none)) else (none)) else (empennageref04_Path.l1 k x2 x8 x9 (wrap64 (x10 + 1)) x229000 x229001 x229002 x229003 x229004)) else (none)) else (none)) else (none)) else (empennageref04_Path.l0 k x2 x8 (wrap64 (x9 + 1)) x229000 x229001 x229002 x229003 x229004)
end
def empennageref04_Path.f (k : Nat) (a0_0 : Int) (a0_1 : Int) (l0_2 : List (S33)) (l0_3 : List (S35)) (l0_4 : List Int) (a1 : Int) (a2 : Int) : Option (Bool) := (empennageref04_May.f k a0_0 a0_1 l0_2 l0_3 l0_4).bind fun t229 => (if t229 = true then ((empennageref04_in.f a1 0 (wrap64 (a0_0 - 1))).bind fun t230 => (if t230 = true then ((empennageref04_in.f a2 0 (wrap64 (a0_0 - 1))).bind fun t231 => (empennageref04_Path.j0 k a1 a2 (!t231) a0_0 a0_1 l0_2 l0_3 l0_4)) else (empennageref04_Path.j0 k a1 a2 true a0_0 a0_1 l0_2 l0_3 l0_4))) else (empennageref04_Path.j0 k a1 a2 true a0_0 a0_1 l0_2 l0_3 l0_4))
theorem empennageref04_Path.mono_l : ∀ k, (∀ y0 y1 y2 y3 y4 y5 y6 y7, LeO (empennageref04_Path.j0 k y0 y1 y2 y3 y4 y5 y6 y7) (empennageref04_Path.j0 (k + 1) y0 y1 y2 y3 y4 y5 y6 y7)) ∧ (∀ y0 y1 y2 y3 y4 y5 y6 y7, LeO (empennageref04_Path.l0 k y0 y1 y2 y3 y4 y5 y6 y7) (empennageref04_Path.l0 (k + 1) y0 y1 y2 y3 y4 y5 y6 y7)) ∧ (∀ y0 y1 y2 y3 y4 y5 y6 y7 y8, LeO (empennageref04_Path.l1 k y0 y1 y2 y3 y4 y5 y6 y7 y8) (empennageref04_Path.l1 (k + 1) y0 y1 y2 y3 y4 y5 y6 y7 y8))
  | 0 => ⟨fun _ _ _ _ _ _ _ _ r h => by simp [empennageref04_Path.j0] at h, fun _ _ _ _ _ _ _ _ r h => by simp [empennageref04_Path.l0] at h, fun _ _ _ _ _ _ _ _ _ r h => by simp [empennageref04_Path.l1] at h⟩
  | k + 1 => by
    obtain ⟨ih0, ih1, ih2⟩ := empennageref04_Path.mono_l k
    refine ⟨?_, ?_, ?_⟩
    · intro y0 y1 y2 y3 y4 y5 y6 y7
      unfold empennageref04_Path.j0
      repeat' first
      | (with_reducible exact ih0 _ _ _ _ _ _ _ _)
      | (with_reducible exact ih1 _ _ _ _ _ _ _ _)
      | (with_reducible exact ih2 _ _ _ _ _ _ _ _ _)
      | (with_reducible exact empennageref04_May.mono _ _ _ _ _ _)
      | (with_reducible exact LeO.refl _)
      | (with_reducible exact LeO.none _)
      | (with_reducible refine LeO.ite ?_ ?_)
      | (with_reducible refine LeO.bind ?_ (fun _ => ?_))
      | exact ih0 _ _ _ _ _ _ _ _
      | exact ih1 _ _ _ _ _ _ _ _
      | exact ih2 _ _ _ _ _ _ _ _ _
      | exact empennageref04_May.mono _ _ _ _ _ _
      | exact LeO.none _
      | refine LeO.ite ?_ ?_
      | refine LeO.bind ?_ (fun _ => ?_)
    · intro y0 y1 y2 y3 y4 y5 y6 y7
      unfold empennageref04_Path.l0
      repeat' first
      | (with_reducible exact ih0 _ _ _ _ _ _ _ _)
      | (with_reducible exact ih1 _ _ _ _ _ _ _ _)
      | (with_reducible exact ih2 _ _ _ _ _ _ _ _ _)
      | (with_reducible exact empennageref04_May.mono _ _ _ _ _ _)
      | (with_reducible exact LeO.refl _)
      | (with_reducible exact LeO.none _)
      | (with_reducible refine LeO.ite ?_ ?_)
      | (with_reducible refine LeO.bind ?_ (fun _ => ?_))
      | exact ih0 _ _ _ _ _ _ _ _
      | exact ih1 _ _ _ _ _ _ _ _
      | exact ih2 _ _ _ _ _ _ _ _ _
      | exact empennageref04_May.mono _ _ _ _ _ _
      | exact LeO.none _
      | refine LeO.ite ?_ ?_
      | refine LeO.bind ?_ (fun _ => ?_)
    · intro y0 y1 y2 y3 y4 y5 y6 y7 y8
      unfold empennageref04_Path.l1
      repeat' first
      | (with_reducible exact ih0 _ _ _ _ _ _ _ _)
      | (with_reducible exact ih1 _ _ _ _ _ _ _ _)
      | (with_reducible exact ih2 _ _ _ _ _ _ _ _ _)
      | (with_reducible exact empennageref04_May.mono _ _ _ _ _ _)
      | (with_reducible exact LeO.refl _)
      | (with_reducible exact LeO.none _)
      | (with_reducible refine LeO.ite ?_ ?_)
      | (with_reducible refine LeO.bind ?_ (fun _ => ?_))
      | exact ih0 _ _ _ _ _ _ _ _
      | exact ih1 _ _ _ _ _ _ _ _
      | exact ih2 _ _ _ _ _ _ _ _ _
      | exact empennageref04_May.mono _ _ _ _ _ _
      | exact LeO.none _
      | refine LeO.ite ?_ ?_
      | refine LeO.bind ?_ (fun _ => ?_)
theorem empennageref04_Path.mono : ∀ a0 a1 a2 a3 a4 a5 a6 k, LeO (empennageref04_Path.f k a0 a1 a2 a3 a4 a5 a6) (empennageref04_Path.f (k + 1) a0 a1 a2 a3 a4 a5 a6) := by
  intro a0 a1 a2 a3 a4 a5 a6 k
  obtain ⟨ih0, ih1, ih2⟩ := empennageref04_Path.mono_l k
  unfold empennageref04_Path.f
  repeat' first
      | (with_reducible exact ih0 _ _ _ _ _ _ _ _)
      | (with_reducible exact ih1 _ _ _ _ _ _ _ _)
      | (with_reducible exact ih2 _ _ _ _ _ _ _ _ _)
      | (with_reducible exact empennageref04_May.mono _ _ _ _ _ _)
      | (with_reducible exact LeO.refl _)
      | (with_reducible exact LeO.none _)
      | (with_reducible refine LeO.ite ?_ ?_)
      | (with_reducible refine LeO.bind ?_ (fun _ => ?_))
      | exact ih0 _ _ _ _ _ _ _ _
      | exact ih1 _ _ _ _ _ _ _ _
      | exact ih2 _ _ _ _ _ _ _ _ _
      | exact empennageref04_May.mono _ _ _ _ _ _
      | exact LeO.none _
      | refine LeO.ite ?_ ?_
      | refine LeO.bind ?_ (fun _ => ?_)
set_option maxHeartbeats 8000000 in
set_option maxRecDepth 100000 in
theorem empennageref04_Path.calls (k : Nat) (a0_0 : Int) (a0_1 : Int) (A0_2 : Option Addr) (c0_2 : Nat) (l0_2 : List (S33)) (A0_3 : Option Addr) (c0_3 : Nat) (l0_3 : List (S35)) (A0_4 : Option Addr) (c0_4 : Nat) (l0_4 : List Int) (a1 : Int) (a2 : Int) (r : Bool) (w : World) (hr0_2 : Kd.C k33 w A0_2 l0_2.length l0_2) (hc0_2 : l0_2.length ≤ c0_2) (hr0_3 : Kd.C k35 w A0_3 l0_3.length l0_3) (hc0_3 : l0_3.length ≤ c0_3) (hr0_4 : Kd.C (Kd.int .i64) w A0_4 l0_4.length l0_4) (hc0_4 : l0_4.length ≤ c0_4) (h : empennageref04_Path.f k a0_0 a0_1 l0_2 l0_3 l0_4 a1 a2 = some r) :
    Calls Tryd.prog 16 #[.agg #[.int .i64 a0_0, .int .i64 a0_1, .slice A0_2 l0_2.length c0_2, .slice A0_3 l0_3.length c0_3, .slice A0_4 l0_4.length c0_4], .int .i64 a1, .int .i64 a2] w fun e w' => e = .returned (.bool r) ∧ Below w.heap.size w w' := by
  have hu26 := Tryd.underlying26
  have HR0_2 := Aside0.mk hr0_2
  have HC0_2 := Aside0.mk hc0_2
  clear hr0_2 hc0_2
  have HR0_3 := Aside0.mk hr0_3
  have HC0_3 := Aside0.mk hc0_3
  clear hr0_3 hc0_3
  have HR0_4 := Aside0.mk hr0_4
  have HC0_4 := Aside0.mk hc0_4
  clear hr0_4 hc0_4
  have HB := Aside0.mk (Below.refl w.heap.size w)
  have H : ((empennageref04_May.f k a0_0 a0_1 l0_2 l0_3 l0_4).bind fun t229 => (if t229 = true then ((empennageref04_in.f a1 0 (wrap64 (a0_0 - 1))).bind fun t230 => (if t230 = true then ((empennageref04_in.f a2 0 (wrap64 (a0_0 - 1))).bind fun t231 => (empennageref04_Path.j0 k a1 a2 (!t231) a0_0 a0_1 l0_2 l0_3 l0_4)) else (empennageref04_Path.j0 k a1 a2 true a0_0 a0_1 l0_2 l0_3 l0_4))) else (empennageref04_Path.j0 k a1 a2 true a0_0 a0_1 l0_2 l0_3 l0_4))) = some r := h
  clear h
  replace H := Option.bind_eq_some_iff.mp H
  obtain ⟨t229, A40, H⟩ := H
  replace H : (if t229 = true then ((empennageref04_in.f a1 0 (wrap64 (a0_0 - 1))).bind fun t230 => (if t230 = true then ((empennageref04_in.f a2 0 (wrap64 (a0_0 - 1))).bind fun t231 => (empennageref04_Path.j0 k a1 a2 (!t231) a0_0 a0_1 l0_2 l0_3 l0_4)) else (empennageref04_Path.j0 k a1 a2 true a0_0 a0_1 l0_2 l0_3 l0_4))) else (empennageref04_Path.j0 k a1 a2 true a0_0 a0_1 l0_2 l0_3 l0_4)) = some r := H
  have A4 := Aside0.mk A40
  clear A40
  have HC5 := Aside0.mk H
  clear H
  go_enter Tryd.func16, Tryd.ntmps16
  go_upto_region 2 with (first | ((with_reducible refine gate_dst (N := 3) rfl ?_); refine box_event ?hg (N := 3) ?hd (cs := #[.int .i64 a0_0, .int .i64 a0_1, .slice A0_2 l0_2.length c0_2, .slice A0_3 l0_3.length c0_3, .slice A0_4 l0_4.length c0_4]) (t := 26) ?hr ?_; (case hd => rfl); (case hg => rfl); (case hr => first | (go_simp; done) | (go_simp; rfl)); intro gb228 hg w6 hbox hb; have n0_ := Aside0.mk (below_step (by repeat (first | (with_reducible first | exact HB.out | apply below_alloc | apply pw_below_drewN | apply below_drew1) | exact HB.out)) hb); have n1_ := Aside0.mk (hbox); have n2_ := Aside0.mk ((by rw [hg]; exact (below_size (by repeat (first | (with_reducible first | exact HB.out | apply below_alloc | apply pw_below_drewN | apply below_drew1) | exact HB.out))) : w.heap.size ≤ gb228)); have n3_ := Aside0.mk ((by rw [hg]; exact (below_size (by repeat (first | (with_reducible first | exact HB.out | apply below_alloc | apply pw_below_drewN | apply below_drew1) | exact HB.out))) : w.heap.size ≤ gb228)); clear HB; have HB := n0_; have BK228 := n1_; have GW228 := n2_; have GE228 := n3_; clear n0_ n1_ n2_ n3_; clear hb hbox hg; have hcz7_0 : w6.cell? ⟨gb228, 0, none⟩ = some (.int .i64 a0_0) := (blk_cell BK228.out 0).trans rfl; have hcz7_1 : w6.cell? ⟨gb228, 1, none⟩ = some (.int .i64 a0_1) := (blk_cell BK228.out 1).trans rfl; have hcz7_2 : w6.cell? ⟨gb228, 2, none⟩ = some (.slice A0_2 l0_2.length c0_2) := (blk_cell BK228.out 2).trans rfl; have hcz7_3 : w6.cell? ⟨gb228, 3, none⟩ = some (.slice A0_3 l0_3.length c0_3) := (blk_cell BK228.out 3).trans rfl; have hcz7_4 : w6.cell? ⟨gb228, 4, none⟩ = some (.slice A0_4 l0_4.length c0_4) := (blk_cell BK228.out 4).trans rfl; have hfz7_0 := blk_frozen BK228.out 0; have hfz7_1 := blk_frozen BK228.out 1; have hfz7_2 := blk_frozen BK228.out 2; have hfz7_3 := blk_frozen BK228.out 3; have hfz7_4 := blk_frozen BK228.out 4) | ((with_reducible refine gate_callee (f := 32) rfl ?_); refine goesL_ (some 12) rfl rfl Tryd.func32 (by kernel_rfl) rfl #[.agg #[.int .i64 a0_0, .int .i64 a0_1, .slice A0_2 l0_2.length c0_2, .slice A0_3 l0_3.length c0_3, .slice A0_4 l0_4.length c0_4]] rfl (by (try simp only [List.map_toArray, List.map_cons, List.map_nil]); first | done | rfl | (simp only [List.length_drop, List.length_take]; rfl)) ?_; (with_reducible refine (empennageref04_May.calls k a0_0 a0_1 _ _ l0_2 _ _ l0_3 _ _ l0_4 t229 _ ?side1 ?side2 ?side3 ?side4 ?side5 ?side6 A4.out).mono ?_); (case side1 => repeat (first | exact (Kd.C_below HR0_2.out HB.out) | (with_reducible refine Kd.C_alloc ?_ _) | (with_reducible refine Kd.C_drewN ?_ _) | (with_reducible refine Kd.C_drew ?_))); (case side2 => exact HC0_2.out); (case side3 => repeat (first | exact (Kd.C_below HR0_3.out HB.out) | (with_reducible refine Kd.C_alloc ?_ _) | (with_reducible refine Kd.C_drewN ?_ _) | (with_reducible refine Kd.C_drew ?_))); (case side4 => exact HC0_3.out); (case side5 => repeat (first | exact (Kd.C_below HR0_4.out HB.out) | (with_reducible refine Kd.C_alloc ?_ _) | (with_reducible refine Kd.C_drewN ?_ _) | (with_reducible refine Kd.C_drew ?_))); (case side6 => exact HC0_4.out); rintro e w8 ⟨rfl, hb⟩; refine ⟨_, rfl, ?_⟩; have n0_ := Aside0.mk (blk_below (g := gb228) (o := .cells #[.int .i64 a0_0, .int .i64 a0_1, .slice A0_2 l0_2.length c0_2, .slice A0_3 l0_3.length c0_3, .slice A0_4 l0_4.length c0_4] 26 (0, 0)) (by (with_reducible repeat (first | refine blk_drewN ?_ _ | refine blk_drew ?_ | refine blk_alloc ?_ _)); exact BK228.out) hb); have n1_ := Aside0.mk (below_step (by repeat (first | (with_reducible first | exact HB.out | apply below_alloc | apply pw_below_drewN | apply below_drew1 | refine below_set ?_ GE228.out) | exact HB.out)) hb); clear BK228; clear HB; have BK228 := n0_; have HB := n1_; clear n0_ n1_; (try clear hb); (try clear hb2); (try clear hk); (try clear hi)))
  (try simp only [Act.put, List.setIfInBounds_toArray, List.set_cons_zero, List.set_cons_succ])
  go_cut [30] (fun v30 wc => ∃ (kq : Nat) (x30_4 : Bool), v30 = .bool x30_4 ∧ Aside0 (empennageref04_Path.j0 kq a1 a2 x30_4 a0_0 a0_1 l0_2 l0_3 l0_4 = some r) ∧ Aside0 (kq ≤ k) ∧ Aside0 (wc.heap[gb228]? = some (.cells #[.int .i64 a0_0, .int .i64 a0_1, (.slice A0_2 l0_2.length c0_2), (.slice A0_3 l0_3.length c0_3), (.slice A0_4 l0_4.length c0_4)] 26 (0, 0))) ∧ Aside0 (Below w.heap.size w wc))
  case first =>
    have H := HC5.out
    clear HC5
    by_cases c9 : t229 = true
    · subst c9
      have H1 : ((empennageref04_in.f a1 0 (wrap64 (a0_0 - 1))).bind fun t230 => (if t230 = true then ((empennageref04_in.f a2 0 (wrap64 (a0_0 - 1))).bind fun t231 => (empennageref04_Path.j0 k a1 a2 (!t231) a0_0 a0_1 l0_2 l0_3 l0_4)) else (empennageref04_Path.j0 k a1 a2 true a0_0 a0_1 l0_2 l0_3 l0_4))) = some r := by rw [if_pos rfl] at H; exact H
      clear H
      have H := H1
      clear H1
      replace H := Option.bind_eq_some_iff.mp H
      obtain ⟨t230, A100, H⟩ := H
      replace H : (if t230 = true then ((empennageref04_in.f a2 0 (wrap64 (a0_0 - 1))).bind fun t231 => (empennageref04_Path.j0 k a1 a2 (!t231) a0_0 a0_1 l0_2 l0_3 l0_4)) else (empennageref04_Path.j0 k a1 a2 true a0_0 a0_1 l0_2 l0_3 l0_4)) = some r := H
      have A10 := Aside0.mk A100
      clear A100
      by_cases c11 : t230 = true
      · subst c11
        have H1 : ((empennageref04_in.f a2 0 (wrap64 (a0_0 - 1))).bind fun t231 => (empennageref04_Path.j0 k a1 a2 (!t231) a0_0 a0_1 l0_2 l0_3 l0_4)) = some r := by rw [if_pos rfl] at H; exact H
        clear H
        have H := H1
        clear H1
        replace H := Option.bind_eq_some_iff.mp H
        obtain ⟨t231, A120, H⟩ := H
        replace H : (empennageref04_Path.j0 k a1 a2 (!t231) a0_0 a0_1 l0_2 l0_3 l0_4) = some r := H
        have A12 := Aside0.mk A120
        clear A120
        have H' := Aside0.mk H
        clear H
        have hcz13_0 : w8.cell? ⟨gb228, 0, none⟩ = some (.int .i64 a0_0) := (blk_cell BK228.out 0).trans rfl
        have hcz13_1 : w8.cell? ⟨gb228, 1, none⟩ = some (.int .i64 a0_1) := (blk_cell BK228.out 1).trans rfl
        have hcz13_2 : w8.cell? ⟨gb228, 2, none⟩ = some (.slice A0_2 l0_2.length c0_2) := (blk_cell BK228.out 2).trans rfl
        have hcz13_3 : w8.cell? ⟨gb228, 3, none⟩ = some (.slice A0_3 l0_3.length c0_3) := (blk_cell BK228.out 3).trans rfl
        have hcz13_4 : w8.cell? ⟨gb228, 4, none⟩ = some (.slice A0_4 l0_4.length c0_4) := (blk_cell BK228.out 4).trans rfl
        have hfz13_0 := blk_frozen BK228.out 0
        have hfz13_1 := blk_frozen BK228.out 1
        have hfz13_2 := blk_frozen BK228.out 2
        have hfz13_3 := blk_frozen BK228.out 3
        have hfz13_4 := blk_frozen BK228.out 4
        go_wp2_with (first | (go_at_call 33; (with_reducible refine (empennageref04_in.calls a1 0 (wrap64 (a0_0 - 1)) true _ A10.out).mono ?_); rintro e w' ⟨rfl, ⟨nd, rfl⟩⟩) | (go_at_call 33; (with_reducible refine (empennageref04_in.calls a2 0 (wrap64 (a0_0 - 1)) t231 _ A12.out).mono ?_); rintro e w' ⟨rfl, ⟨nd, rfl⟩⟩))
        go_meet
        case rel => exact ⟨_, (!t231), (by first | rfl | (simp; done) | (simp [*]; done)), H', ⟨by first | omega | exact Nat.le_refl _⟩, ⟨by (with_reducible repeat (first | refine blk_drewN ?_ _ | refine blk_drew ?_ | refine blk_alloc ?_ _)); exact BK228.out⟩, ⟨by repeat (first | (with_reducible first | exact HB.out | apply below_alloc | apply pw_below_drewN | apply below_drew1 | refine below_set ?_ GE228.out) | exact HB.out)⟩⟩
      · replace c11 := Bool.eq_false_iff.mpr c11
        subst c11
        have H1 : (empennageref04_Path.j0 k a1 a2 true a0_0 a0_1 l0_2 l0_3 l0_4) = some r := by rw [if_neg (show ¬ (false = true) by decide)] at H; exact H
        clear H
        have H := H1
        clear H1
        have H' := Aside0.mk H
        clear H
        have hcz14_0 : w8.cell? ⟨gb228, 0, none⟩ = some (.int .i64 a0_0) := (blk_cell BK228.out 0).trans rfl
        have hcz14_1 : w8.cell? ⟨gb228, 1, none⟩ = some (.int .i64 a0_1) := (blk_cell BK228.out 1).trans rfl
        have hcz14_2 : w8.cell? ⟨gb228, 2, none⟩ = some (.slice A0_2 l0_2.length c0_2) := (blk_cell BK228.out 2).trans rfl
        have hcz14_3 : w8.cell? ⟨gb228, 3, none⟩ = some (.slice A0_3 l0_3.length c0_3) := (blk_cell BK228.out 3).trans rfl
        have hcz14_4 : w8.cell? ⟨gb228, 4, none⟩ = some (.slice A0_4 l0_4.length c0_4) := (blk_cell BK228.out 4).trans rfl
        have hfz14_0 := blk_frozen BK228.out 0
        have hfz14_1 := blk_frozen BK228.out 1
        have hfz14_2 := blk_frozen BK228.out 2
        have hfz14_3 := blk_frozen BK228.out 3
        have hfz14_4 := blk_frozen BK228.out 4
        go_wp2_with (first | (go_at_call 33; (with_reducible refine (empennageref04_in.calls a1 0 (wrap64 (a0_0 - 1)) false _ A10.out).mono ?_); rintro e w' ⟨rfl, ⟨nd, rfl⟩⟩))
        go_meet
        case rel => exact ⟨_, (true), (by first | rfl | (simp; done) | (simp [*]; done)), H', ⟨by first | omega | exact Nat.le_refl _⟩, ⟨by (with_reducible repeat (first | refine blk_drewN ?_ _ | refine blk_drew ?_ | refine blk_alloc ?_ _)); exact BK228.out⟩, ⟨by repeat (first | (with_reducible first | exact HB.out | apply below_alloc | apply pw_below_drewN | apply below_drew1 | refine below_set ?_ GE228.out) | exact HB.out)⟩⟩
    · replace c9 := Bool.eq_false_iff.mpr c9
      subst c9
      have H1 : (empennageref04_Path.j0 k a1 a2 true a0_0 a0_1 l0_2 l0_3 l0_4) = some r := by rw [if_neg (show ¬ (false = true) by decide)] at H; exact H
      clear H
      have H := H1
      clear H1
      have H' := Aside0.mk H
      clear H
      go_wp2
      go_meet
      case rel => exact ⟨_, (true), (by first | rfl | (simp; done) | (simp [*]; done)), H', ⟨by first | omega | exact Nat.le_refl _⟩, ⟨by (with_reducible repeat (first | refine blk_drewN ?_ _ | refine blk_drew ?_ | refine blk_alloc ?_ _)); exact BK228.out⟩, ⟨by repeat (first | (with_reducible first | exact HB.out | apply below_alloc | apply pw_below_drewN | apply below_drew1 | refine below_set ?_ GE228.out) | exact HB.out)⟩⟩
  case rest =>
    clear HC5
    try clear c1
    try clear p2
    try clear c3
    try clear p6
    try clear c9
    try clear c11
    try clear hcz13_0
    try clear hcz13_1
    try clear hcz13_2
    try clear hcz13_3
    try clear hcz13_4
    try clear hcz14_0
    try clear hcz14_1
    try clear hcz14_2
    try clear hcz14_3
    try clear hcz14_4
    try clear hcz7_0
    try clear hcz7_1
    try clear hcz7_2
    try clear hcz7_3
    try clear hcz7_4
    try clear hfz13_0
    try clear hfz13_1
    try clear hfz13_2
    try clear hfz13_3
    try clear hfz13_4
    try clear hfz14_0
    try clear hfz14_1
    try clear hfz14_2
    try clear hfz14_3
    try clear hfz14_4
    try clear hfz7_0
    try clear hfz7_1
    try clear hfz7_2
    try clear hfz7_3
    try clear hfz7_4
    obtain ⟨kq, x30_4, rfl, HA, HJ4, BK228, HB⟩ := hcut
    cases kq with
    | zero => exact absurd HA.out (by simp [empennageref04_Path.j0])
    | succ kj4 =>
      have H := HA.out
      clear HA
      simp only [empennageref04_Path.j0] at H
      by_cases c15 : x30_4 = true
      · subst c15
        have H1 : (some false) = some r := by rw [if_pos rfl] at H; exact H
        clear H
        have H := H1
        clear H1
        obtain rfl := Option.some.inj H
        go_wp2
        go_ret
        exact ⟨by first | rfl | (simp [errW_none, errW_some] <;> rfl) | (simp [*, errW_none, errW_some] <;> rfl), by repeat (first | (with_reducible first | exact HB.out | apply below_alloc | apply pw_below_drewN | apply below_drew1 | refine below_set ?_ GE228.out) | exact HB.out)⟩
      · replace c15 := Bool.eq_false_iff.mpr c15
        subst c15
        have H1 : (if 0 ≤ a0_0 then (if (a0_0 : Int).toNat ≤ 281474976710656 then ((some (List.replicate (a0_0 : Int).toNat false : List Bool)).bind fun y232 => (if 0 ≤ a1 then (if a1 < (y232.length : Int) then (empennageref04_Path.l0 kj4 a2 (y232.set (a1 : Int).toNat true) 0 a0_0 a0_1 l0_2 l0_3 l0_4) else (none)) else (none))) else (none)) else (none)) = some r := by rw [if_neg (show ¬ (false = true) by decide)] at H; exact H
        clear H
        have H := H1
        clear H1
        by_cases c16 : 0 ≤ a0_0
        · rw [if_pos c16] at H
          have c16b0 := eq_true c16
          have c16b1 : decide (0 ≤ a0_0) = true := decide_eq_true c16
          clear c16
          by_cases c17 : (a0_0 : Int).toNat ≤ 281474976710656
          · rw [if_pos c17] at H
            have c17b0 := eq_true c17
            have c17b1 : decide ((a0_0 : Int).toNat ≤ 281474976710656) = true := decide_eq_true c17
            clear c17
            obtain ⟨y232, hy232⟩ : ∃ y_ : List Bool, y_ = (List.replicate (a0_0 : Int).toNat false) := ⟨_, rfl⟩
            replace H : (if 0 ≤ a1 then (if a1 < (y232.length : Int) then (empennageref04_Path.l0 kj4 a2 (y232.set (a1 : Int).toNat true) 0 a0_0 a0_1 l0_2 l0_3 l0_4) else (none)) else (none)) = some r := by first | (rw [hy232]; with_reducible exact H) | (have H2_ := (Option.bind_some _ _).symm.trans H; rw [hy232]; with_reducible exact H2_) | (have H2_ := (Option.bind_some _ _).symm.trans H; with_reducible exact H2_) | with_reducible exact H | (rw [hy232]; exact H) | exact H
            have Ny232 := Aside0.mk hy232
            clear hy232
            by_cases c18 : 0 ≤ a1
            · rw [if_pos c18] at H
              have c18b0 : decide (0 ≤ a1) = true := decide_eq_true c18
              clear c18
              by_cases c19 : a1 < (y232.length : Int)
              · rw [if_pos c19] at H
                have c19b0 : decide (a1 < (y232.length : Int)) = true := decide_eq_true c19
                clear c19
                obtain ⟨y235, hy235⟩ : ∃ y_ : List Bool, y_ = (y232.set (a1 : Int).toNat true) := ⟨_, rfl⟩
                replace H : (empennageref04_Path.l0 kj4 a2 y235 0 a0_0 a0_1 l0_2 l0_3 l0_4) = some r := by first | (rw [hy235]; with_reducible exact H) | (have H2_ := (Option.bind_some _ _).symm.trans H; rw [hy235]; with_reducible exact H2_) | (have H2_ := (Option.bind_some _ _).symm.trans H; with_reducible exact H2_) | with_reducible exact H | (rw [hy235]; exact H) | exact H
                have Ny235 := Aside0.mk hy235
                clear hy235
                have H' := Aside0.mk H
                clear H
                have hcz21_0 : wc.cell? ⟨gb228, 0, none⟩ = some (.int .i64 a0_0) := (blk_cell BK228.out 0).trans rfl
                have hcz21_1 : wc.cell? ⟨gb228, 1, none⟩ = some (.int .i64 a0_1) := (blk_cell BK228.out 1).trans rfl
                have hcz21_2 : wc.cell? ⟨gb228, 2, none⟩ = some (.slice A0_2 l0_2.length c0_2) := (blk_cell BK228.out 2).trans rfl
                have hcz21_3 : wc.cell? ⟨gb228, 3, none⟩ = some (.slice A0_3 l0_3.length c0_3) := (blk_cell BK228.out 3).trans rfl
                have hcz21_4 : wc.cell? ⟨gb228, 4, none⟩ = some (.slice A0_4 l0_4.length c0_4) := (blk_cell BK228.out 4).trans rfl
                have hfz21_0 := blk_frozen BK228.out 0
                have hfz21_1 := blk_frozen BK228.out 1
                have hfz21_2 := blk_frozen BK228.out 2
                have hfz21_3 := blk_frozen BK228.out 3
                have hfz21_4 := blk_frozen BK228.out 4
                go_wp2_with (first | ((with_reducible refine gate_dst (N := 33) rfl ?_); refine Kd.R_make Kd.bool _ 4 rfl (N := 33) rfl 62 _ _ rfl a0_0 rfl rfl Tryd.underlying62 (.bool false) 1 info4 rfl (by decide) (by omega) false (ok := fun _ => True) (okp := fun _ => True) rfl (fun _ hk => hk) trivial (of_decide_eq_true (by first | (with_reducible assumption) | assumption)) (Nat.le_trans (Nat.mul_le_mul_right _ (of_decide_eq_true (by first | (with_reducible assumption) | assumption) : a0_0.toNat ≤ 281474976710656)) (by omega)) (Below.refl _ _) (Nat.le_refl _) ?_; intro v233 w22 ho23 hb hg_ hnew_; clear hg_ hnew_; (first | rw [← Ny232.out] at ho23 | (simp only [Int.reduceToNat] at ho23; rw [← Ny232.out] at ho23)); have n0_ := Aside0.mk (Kd.R_lower ho23 (below_size (by repeat (first | (with_reducible first | exact HB.out | apply below_alloc | apply pw_below_drewN | apply below_drew1 | refine below_set ?_ GE228.out) | exact HB.out)))); have n1_ := Aside0.mk (blk_below (g := gb228) (o := .cells #[.int .i64 a0_0, .int .i64 a0_1, .slice A0_2 l0_2.length c0_2, .slice A0_3 l0_3.length c0_3, .slice A0_4 l0_4.length c0_4] 26 (0, 0)) (by (with_reducible repeat (first | refine blk_drewN ?_ _ | refine blk_drew ?_ | refine blk_alloc ?_ _)); exact BK228.out) hb); have n2_ := Aside0.mk (below_step (by repeat (first | (with_reducible first | exact HB.out | apply below_alloc | apply pw_below_drewN | apply below_drew1 | refine below_set ?_ GE228.out) | exact HB.out)) hb); clear BK228; clear HB; have HO234 := n0_; have BK228 := n1_; have HB := n2_; clear n0_ n1_ n2_; clear hb ho23; have p20 : 0 ≤ (a1 : Int) := of_decide_eq_true (by first | (with_reducible assumption) | assumption); have q20 : (a1 : Int) < ((y232.length : Int) : Int) := of_decide_eq_true (by first | (with_reducible assumption) | assumption); obtain ⟨go20, co20, eo20, gb20, gl20, cl20, HG20⟩ := Kd.R_form HO234.out (by omega); (first | cases eo20 | (injection eo20 with ea_ en_ ec_; (first | subst ea_ | (injection ea_ with ea_; subst ea_)); subst ec_; clear en_)); have GB20 := Aside0.mk gb20; have GG20 := Aside0.mk HG20; clear gb20 gl20 HG20; obtain ⟨hx20_0, hf20_0⟩ := Kd.R_celln false HO234.out (a1 : Int) p20 q20; replace p20 := eq_true p20; replace q20 := eq_true q20; obtain ⟨hy24_, hz24_⟩ := Kd.R_celln false HO234.out (a1 : Int) (of_decide_eq_true (by first | (with_reducible assumption) | assumption)) (of_decide_eq_true (by first | (with_reducible assumption) | assumption)); have HP24 := Kd.R_putg HO234.out (a1 : Int) true) | ((with_reducible refine gate_store (t := 4) (p := 36) rfl ?_); refine store_event (t := 4) (p := 36) (v := ?vo_w25) (w1 := (w22.setCell ⟨go20, (a1 : Int).toNat, none⟩ (.bool true))) ?hg ?ho ?hn ?hr ?_; (case ho => rfl); (case hg => rfl); (case hn => rfl); (case hr => first | (go_simp; done) | (go_simp; rfl)); intro w25 hw; have hg : w22.grownBy w25 (some go20) := (by rw [hw]; exact HP24.2); have hp_ : Kd.R Kd.bool 4 w25 w.heap.size (fun _ => True) (.slice (some ⟨go20, 0, none⟩) y232.length co20) y235 := (by rw [hw, Ny235.out]; exact HP24.1); clear HP24; have n0_ := Aside0.mk (blk_grown (g := gb228) (o := .cells #[.int .i64 a0_0, .int .i64 a0_1, .slice A0_2 l0_2.length c0_2, .slice A0_3 l0_3.length c0_3, .slice A0_4 l0_4.length c0_4] 26 (0, 0)) (by (with_reducible repeat (first | refine blk_drewN ?_ _ | refine blk_drew ?_ | refine blk_alloc ?_ _)); exact BK228.out) hg (Kd.R_ne HO234.out BK228.out (by decide))); have n1_ := Aside0.mk (hp_); have n2_ := Aside0.mk ((by rw [hw]; exact below_set (HB.out) GB20.out : Below w.heap.size w w25)); clear BK228; clear HO234; clear HB; have BK228 := n0_; have HO234 := n1_; have HB := n2_; clear n0_ n1_ n2_; clear hg hw hp_))
                go_loopg [9] kj4 (fun kq v9 w' => ∃ (x8_2 : List Bool) (x9_2 : Int), v9 = .int .i64 x9_2 ∧ Aside0 (empennageref04_Path.l0 kq a2 x8_2 x9_2 a0_0 a0_1 l0_2 l0_3 l0_4 = some r) ∧ Aside0 (kq ≤ kj4) ∧ Aside0 (Kd.R Kd.bool 4 w' w.heap.size (fun _ => True) (.slice (some ⟨go20, 0, none⟩) y232.length co20) x8_2) ∧ Aside0 (w'.heap[gb228]? = some (.cells #[.int .i64 a0_0, .int .i64 a0_1, (.slice A0_2 l0_2.length c0_2), (.slice A0_3 l0_3.length c0_3), (.slice A0_4 l0_4.length c0_4)] 26 (0, 0))) ∧ Aside0 (Below w.heap.size w w'))
                case atStart => exact ⟨(y235), (0), (by first | rfl | (simp; done) | (simp [*]; done)), H', ⟨Nat.le_refl _⟩, ⟨by (with_reducible repeat (first | apply Kd.R_alloc | apply Kd.R_drewN | apply Kd.R_drew)); exact HO234.out⟩, ⟨by (with_reducible repeat (first | refine blk_drewN ?_ _ | refine blk_drew ?_ | refine blk_alloc ?_ _)); exact BK228.out⟩, ⟨by repeat (first | (with_reducible first | exact HB.out | apply below_alloc | apply pw_below_drewN | apply below_drew1 | refine below_set ?_ GE228.out) | exact HB.out)⟩⟩
                case round =>
                  clear H'
                  try clear c1
                  try clear p2
                  try clear q2
                  try clear hx2
                  try clear c3
                  try clear p6
                  try clear c9
                  try clear c11
                  try clear c15
                  try clear c16
                  try clear c16b0
                  try clear c16b1
                  try clear c17
                  try clear c17b0
                  try clear c17b1
                  try clear c18
                  try clear c18b0
                  try clear c19
                  try clear c19b0
                  try clear p20
                  try clear q20
                  try clear hx20
                  try clear hf20
                  try clear hcz13_0
                  try clear hcz13_1
                  try clear hcz13_2
                  try clear hcz13_3
                  try clear hcz13_4
                  try clear hcz14_0
                  try clear hcz14_1
                  try clear hcz14_2
                  try clear hcz14_3
                  try clear hcz14_4
                  try clear hcz21_0
                  try clear hcz21_1
                  try clear hcz21_2
                  try clear hcz21_3
                  try clear hcz21_4
                  try clear hcz7_0
                  try clear hcz7_1
                  try clear hcz7_2
                  try clear hcz7_3
                  try clear hcz7_4
                  try clear hfz13_0
                  try clear hfz13_1
                  try clear hfz13_2
                  try clear hfz13_3
                  try clear hfz13_4
                  try clear hfz14_0
                  try clear hfz14_1
                  try clear hfz14_2
                  try clear hfz14_3
                  try clear hfz14_4
                  try clear hfz21_0
                  try clear hfz21_1
                  try clear hfz21_2
                  try clear hfz21_3
                  try clear hfz21_4
                  try clear hfz7_0
                  try clear hfz7_1
                  try clear hfz7_2
                  try clear hfz7_3
                  try clear hfz7_4
                  try clear hx20_0
                  try clear p2
                  try clear p20
                  try clear p6
                  try clear q20
                  obtain ⟨x8_2, x9_2, rfl, HA, HK2, HO_8, BK228, HB⟩ := hrel
                  have hl8_2 := (Kd.R_reads' HO_8.out).1
                  rw [hl8_2] at HO_8
                  (try simp only [hl8_2])
                  (try simp only [hl8_2] at BK228)
                  cases gk with
                  | zero => exact absurd HA.out (by simp [empennageref04_Path.l0])
                  | succ k2 =>
                    have H := HA.out
                    clear HA
                    simp only [empennageref04_Path.l0] at H
                    by_cases c26 : x9_2 < 4
                    · rw [if_pos c26] at H
                      have c26b0 : decide (x9_2 < 4) = true := decide_eq_true c26
                      clear c26
                      have H' := Aside0.mk H
                      clear H
                      go_wp2
                      go_loopg [10] k2 (fun kq v10 w' => ∃ (x8_3 : List Bool) (x10_3 : Int), v10 = .int .i64 x10_3 ∧ Aside0 (empennageref04_Path.l1 kq a2 x8_3 x9_2 x10_3 a0_0 a0_1 l0_2 l0_3 l0_4 = some r) ∧ Aside0 (kq ≤ k2) ∧ Aside0 (Kd.R Kd.bool 4 w' w.heap.size (fun _ => True) (.slice (some ⟨go20, 0, none⟩) x8_2.length co20) x8_3) ∧ Aside0 (w'.heap[gb228]? = some (.cells #[.int .i64 a0_0, .int .i64 a0_1, (.slice A0_2 l0_2.length c0_2), (.slice A0_3 l0_3.length c0_3), (.slice A0_4 l0_4.length c0_4)] 26 (0, 0))) ∧ Aside0 (Below w.heap.size w w'))
                      case atStart => exact ⟨(x8_2), (0), (by first | rfl | (simp; done) | (simp [*]; done)), H', ⟨Nat.le_refl _⟩, ⟨by (try simp only [hl8_2]); (with_reducible repeat (first | apply Kd.R_alloc | apply Kd.R_drewN | apply Kd.R_drew)); exact HO_8.out⟩, ⟨by (try simp only [hl8_2]); (with_reducible repeat (first | refine blk_drewN ?_ _ | refine blk_drew ?_ | refine blk_alloc ?_ _)); exact BK228.out⟩, ⟨by repeat (first | (with_reducible first | exact HB.out | apply below_alloc | apply pw_below_drewN | apply below_drew1 | refine below_set ?_ GE228.out) | exact HB.out)⟩⟩
                      case round =>
                        clear H'
                        try clear c1
                        try clear c2
                        try clear p2
                        try clear q2
                        try clear hx2
                        try clear c3
                        try clear p6
                        try clear c9
                        try clear c11
                        try clear c15
                        try clear c16
                        try clear c16b0
                        try clear c16b1
                        try clear c17
                        try clear c17b0
                        try clear c17b1
                        try clear c18
                        try clear c18b0
                        try clear c19
                        try clear c19b0
                        try clear p20
                        try clear q20
                        try clear hx20
                        try clear hf20
                        try clear c26
                        try clear c26b0
                        try clear hcz13_0
                        try clear hcz13_1
                        try clear hcz13_2
                        try clear hcz13_3
                        try clear hcz13_4
                        try clear hcz14_0
                        try clear hcz14_1
                        try clear hcz14_2
                        try clear hcz14_3
                        try clear hcz14_4
                        try clear hcz21_0
                        try clear hcz21_1
                        try clear hcz21_2
                        try clear hcz21_3
                        try clear hcz21_4
                        try clear hcz7_0
                        try clear hcz7_1
                        try clear hcz7_2
                        try clear hcz7_3
                        try clear hcz7_4
                        try clear hfz13_0
                        try clear hfz13_1
                        try clear hfz13_2
                        try clear hfz13_3
                        try clear hfz13_4
                        try clear hfz14_0
                        try clear hfz14_1
                        try clear hfz14_2
                        try clear hfz14_3
                        try clear hfz14_4
                        try clear hfz21_0
                        try clear hfz21_1
                        try clear hfz21_2
                        try clear hfz21_3
                        try clear hfz21_4
                        try clear hfz7_0
                        try clear hfz7_1
                        try clear hfz7_2
                        try clear hfz7_3
                        try clear hfz7_4
                        try clear hx20_0
                        try clear p2
                        try clear p20
                        try clear p6
                        try clear q2
                        try clear q20
                        obtain ⟨x8_3, x10_3, rfl, HA, HK3, HO_8, BK228, HB⟩ := hrel
                        have hl8_3 := (Kd.R_reads' HO_8.out).1
                        rw [hl8_3] at HO_8
                        (try simp only [hl8_3])
                        (try simp only [hl8_3] at BK228)
                        cases gk with
                        | zero => exact absurd HA.out (by simp [empennageref04_Path.l1])
                        | succ k3 =>
                          have H := HA.out
                          clear HA
                          simp only [empennageref04_Path.l1] at H
                          by_cases c27 : x10_3 < (l0_3.length : Int)
                          · rw [if_pos c27] at H
                            have c27b0 : decide (x10_3 < (l0_3.length : Int)) = true := decide_eq_true c27
                            clear c27
                            by_cases c28 : 0 ≤ x10_3
                            · rw [if_pos c28] at H
                              have c28b0 : decide (0 ≤ x10_3) = true := decide_eq_true c28
                              clear c28
                              by_cases c29 : 0 ≤ ((rd_T35 l0_3 x10_3).f1)
                              · rw [if_pos c29] at H
                                have c29b0 : decide (0 ≤ ((rd_T35 l0_3 x10_3).f1)) = true := decide_eq_true c29
                                clear c29
                                by_cases c30 : ((rd_T35 l0_3 x10_3).f1) < (x8_3.length : Int)
                                · rw [if_pos c30] at H
                                  have c30b0 : decide (((rd_T35 l0_3 x10_3).f1) < (x8_3.length : Int)) = true := decide_eq_true c30
                                  clear c30
                                  obtain ⟨bq31, hbq31⟩ : ∃ b_ : Bool, b_ = (rdOf false x8_3 ((rd_T35 l0_3 x10_3).f1)) := ⟨_, rfl⟩
                                  replace H : (if bq31 = true then (if 0 ≤ ((rd_T35 l0_3 x10_3).f2) then (if ((rd_T35 l0_3 x10_3).f2) < (x8_3.length : Int) then (empennageref04_Path.l1 k3 a2 (x8_3.set (((rd_T35 l0_3 x10_3).f2) : Int).toNat true) x9_2 (wrap64 (x10_3 + 1)) a0_0 a0_1 l0_2 l0_3 l0_4) else (none)) else (none)) else (empennageref04_Path.l1 k3 a2 x8_3 x9_2 (wrap64 (x10_3 + 1)) a0_0 a0_1 l0_2 l0_3 l0_4)) = some r := by rw [← hbq31] at H; exact H
                                  have Nbq31 := Aside0.mk hbq31
                                  clear hbq31
                                  by_cases c32 : bq31 = true
                                  · subst c32
                                    have H1 : (if 0 ≤ ((rd_T35 l0_3 x10_3).f2) then (if ((rd_T35 l0_3 x10_3).f2) < (x8_3.length : Int) then (empennageref04_Path.l1 k3 a2 (x8_3.set (((rd_T35 l0_3 x10_3).f2) : Int).toNat true) x9_2 (wrap64 (x10_3 + 1)) a0_0 a0_1 l0_2 l0_3 l0_4) else (none)) else (none)) = some r := by rw [if_pos rfl] at H; exact H
                                    clear H
                                    have H := H1
                                    clear H1
                                    by_cases c33 : 0 ≤ ((rd_T35 l0_3 x10_3).f2)
                                    · rw [if_pos c33] at H
                                      have c33b0 : decide (0 ≤ ((rd_T35 l0_3 x10_3).f2)) = true := decide_eq_true c33
                                      clear c33
                                      by_cases c34 : ((rd_T35 l0_3 x10_3).f2) < (x8_3.length : Int)
                                      · rw [if_pos c34] at H
                                        have c34b0 : decide (((rd_T35 l0_3 x10_3).f2) < (x8_3.length : Int)) = true := decide_eq_true c34
                                        clear c34
                                        obtain ⟨y240, hy240⟩ : ∃ y_ : List Bool, y_ = (x8_3.set (((rd_T35 l0_3 x10_3).f2) : Int).toNat true) := ⟨_, rfl⟩
                                        replace H : (empennageref04_Path.l1 k3 a2 y240 x9_2 (wrap64 (x10_3 + 1)) a0_0 a0_1 l0_2 l0_3 l0_4) = some r := by first | (rw [hy240]; with_reducible exact H) | (have H2_ := (Option.bind_some _ _).symm.trans H; rw [hy240]; with_reducible exact H2_) | (have H2_ := (Option.bind_some _ _).symm.trans H; with_reducible exact H2_) | with_reducible exact H | (rw [hy240]; exact H) | exact H
                                        have Ny240 := Aside0.mk hy240
                                        clear hy240
                                        have H' := Aside0.mk H
                                        clear H
                                        have hcz36_0 : wr.cell? ⟨gb228, 0, none⟩ = some (.int .i64 a0_0) := (blk_cell BK228.out 0).trans rfl
                                        have hcz36_1 : wr.cell? ⟨gb228, 1, none⟩ = some (.int .i64 a0_1) := (blk_cell BK228.out 1).trans rfl
                                        have hcz36_2 : wr.cell? ⟨gb228, 2, none⟩ = some (.slice A0_2 l0_2.length c0_2) := (blk_cell BK228.out 2).trans rfl
                                        have hcz36_3 : wr.cell? ⟨gb228, 3, none⟩ = some (.slice A0_3 l0_3.length c0_3) := (blk_cell BK228.out 3).trans rfl
                                        have hcz36_4 : wr.cell? ⟨gb228, 4, none⟩ = some (.slice A0_4 l0_4.length c0_4) := (blk_cell BK228.out 4).trans rfl
                                        have hfz36_0 := blk_frozen BK228.out 0
                                        have hfz36_1 := blk_frozen BK228.out 1
                                        have hfz36_2 := blk_frozen BK228.out 2
                                        have hfz36_3 := blk_frozen BK228.out 3
                                        have hfz36_4 := blk_frozen BK228.out 4
                                        have p237 : 0 ≤ (x10_3 : Int) := of_decide_eq_true (by first | (with_reducible assumption) | assumption)
                                        have q237 : x10_3 < (l0_3.length : Int) := of_decide_eq_true (by first | (with_reducible assumption) | assumption)
                                        obtain ⟨ad237, e237, hx237_0, hx237_1, hx237_2, hx237_3, hx237_4, hx237_5, hx237_6, hx237_7, hx237_8, hx237_9, hx237_10⟩ := at_T35 HR0_3.out x10_3 p237 q237
                                        cases e237
                                        replace hx237_0 := (HB.out.cell (World.block_lt_of_cell? w _ hx237_0)).trans hx237_0
                                        replace hx237_1 := (HB.out.cell (World.block_lt_of_cell? w _ hx237_1)).trans hx237_1
                                        replace hx237_2 := (HB.out.cell (World.block_lt_of_cell? w _ hx237_2)).trans hx237_2
                                        replace hx237_3 := (HB.out.cell (World.block_lt_of_cell? w _ hx237_3)).trans hx237_3
                                        replace hx237_4 := (HB.out.cell (World.block_lt_of_cell? w _ hx237_4)).trans hx237_4
                                        replace hx237_5 := (HB.out.cell (World.block_lt_of_cell? w _ hx237_5)).trans hx237_5
                                        replace hx237_6 := (HB.out.cell (World.block_lt_of_cell? w _ hx237_6)).trans hx237_6
                                        replace hx237_7 := (HB.out.cell (World.block_lt_of_cell? w _ hx237_7)).trans hx237_7
                                        replace hx237_8 := (HB.out.cell (World.block_lt_of_cell? w _ hx237_8)).trans hx237_8
                                        replace hx237_9 := (HB.out.cell (World.block_lt_of_cell? w _ hx237_9)).trans hx237_9
                                        replace hx237_10 := (HB.out.cell (World.block_lt_of_cell? w _ hx237_10)).trans hx237_10
                                        replace p237 := eq_true p237
                                        replace q237 := eq_true q237
                                        have p238 : 0 ≤ (((rd_T35 l0_3 x10_3).f1) : Int) := of_decide_eq_true (by first | (with_reducible assumption) | assumption)
                                        have q238 : ((rd_T35 l0_3 x10_3).f1) < (x8_3.length : Int) := of_decide_eq_true (by first | (with_reducible assumption) | assumption)
                                        obtain ⟨ad238, e238, hx238_0⟩ := Kd.at_bool (Kd.R_reads' HO_8.out).2.2 ((rd_T35 l0_3 x10_3).f1) p238 q238
                                        (try rw [← Nbq31.out] at hx238_0)
                                        obtain rfl : (⟨go20, 0, none⟩ : Addr) = ad238 := (by injection e238)
                                        (first | simp only [add_plain] at hx238_0 | simp only [add_at] at hx238_0 | simp only [Addr.add, Nat.zero_add] at hx238_0 | skip)
                                        replace p238 := eq_true p238
                                        replace q238 := eq_true q238
                                        have p239 : 0 ≤ (x10_3 : Int) := of_decide_eq_true (by first | (with_reducible assumption) | assumption)
                                        have q239 : x10_3 < (l0_3.length : Int) := of_decide_eq_true (by first | (with_reducible assumption) | assumption)
                                        obtain ⟨ad239, e239, hx239_0, hx239_1, hx239_2, hx239_3, hx239_4, hx239_5, hx239_6, hx239_7, hx239_8, hx239_9, hx239_10⟩ := at_T35 HR0_3.out x10_3 p239 q239
                                        obtain rfl : ad237 = ad239 := (by injection e239)
                                        replace hx239_0 := (HB.out.cell (World.block_lt_of_cell? w _ hx239_0)).trans hx239_0
                                        replace hx239_1 := (HB.out.cell (World.block_lt_of_cell? w _ hx239_1)).trans hx239_1
                                        replace hx239_2 := (HB.out.cell (World.block_lt_of_cell? w _ hx239_2)).trans hx239_2
                                        replace hx239_3 := (HB.out.cell (World.block_lt_of_cell? w _ hx239_3)).trans hx239_3
                                        replace hx239_4 := (HB.out.cell (World.block_lt_of_cell? w _ hx239_4)).trans hx239_4
                                        replace hx239_5 := (HB.out.cell (World.block_lt_of_cell? w _ hx239_5)).trans hx239_5
                                        replace hx239_6 := (HB.out.cell (World.block_lt_of_cell? w _ hx239_6)).trans hx239_6
                                        replace hx239_7 := (HB.out.cell (World.block_lt_of_cell? w _ hx239_7)).trans hx239_7
                                        replace hx239_8 := (HB.out.cell (World.block_lt_of_cell? w _ hx239_8)).trans hx239_8
                                        replace hx239_9 := (HB.out.cell (World.block_lt_of_cell? w _ hx239_9)).trans hx239_9
                                        replace hx239_10 := (HB.out.cell (World.block_lt_of_cell? w _ hx239_10)).trans hx239_10
                                        replace p239 := eq_true p239
                                        replace q239 := eq_true q239
                                        have p35 : 0 ≤ (((rd_T35 l0_3 x10_3).f2) : Int) := of_decide_eq_true (by first | (with_reducible assumption) | assumption)
                                        have q35 : (((rd_T35 l0_3 x10_3).f2) : Int) < ((x8_3.length : Int) : Int) := of_decide_eq_true (by first | (with_reducible assumption) | assumption)
                                        obtain ⟨hx35_0, hf35_0⟩ := Kd.R_celln false HO_8.out (((rd_T35 l0_3 x10_3).f2) : Int) p35 q35
                                        replace p35 := eq_true p35
                                        replace q35 := eq_true q35
                                        have HP37 := Kd.R_putg HO_8.out (((rd_T35 l0_3 x10_3).f2) : Int) true
                                        go_wp2_with (first | ((with_reducible refine gate_store (t := 4) (p := 64) rfl ?_); refine store_event (t := 4) (p := 64) (v := ?vo_w38) (w1 := (wr.setCell ⟨go20, (((rd_T35 l0_3 x10_3).f2) : Int).toNat, none⟩ (.bool true))) ?hg ?ho ?hn ?hr ?_; (case ho => rfl); (case hg => rfl); (case hn => rfl); (case hr => first | (go_simp; done) | (go_simp; rfl)); intro w38 hw; have hg : wr.grownBy w38 (some go20) := (by rw [hw]; exact HP37.2); have hp_ : Kd.R Kd.bool 4 w38 w.heap.size (fun _ => True) (.slice (some ⟨go20, 0, none⟩) x8_3.length co20) y240 := (by rw [hw, Ny240.out]; exact HP37.1); clear HP37; have n0_ := Aside0.mk (hp_); have n1_ := Aside0.mk (blk_grown (g := gb228) (o := .cells #[.int .i64 a0_0, .int .i64 a0_1, .slice A0_2 l0_2.length c0_2, .slice (some ad237) l0_3.length c0_3, .slice A0_4 l0_4.length c0_4] 26 (0, 0)) (by (with_reducible repeat (first | refine blk_drewN ?_ _ | refine blk_drew ?_ | refine blk_alloc ?_ _)); exact BK228.out) hg (Kd.R_ne HO_8.out BK228.out (by decide))); have n2_ := Aside0.mk ((by rw [hw]; exact below_set (HB.out) GB20.out : Below w.heap.size w w38)); clear HO_8; clear BK228; clear HB; have HO_8 := n0_; have BK228 := n1_; have HB := n2_; clear n0_ n1_ n2_; clear hg hw hp_))
                                        (try simp only [← hl8_3])
                                        go_roundg k3
                                        case measure => have := HJ4.out; have := HK2.out; have := HK3.out; omega
                                        case rel => exact ⟨(y240), (wrap64 (x10_3 + 1)), (by first | rfl | (simp; done) | (simp [*]; done)), H', ⟨by have := HJ4.out; have := HK2.out; have := HK3.out; omega⟩, ⟨by (try simp only [hl8_2]); (try simp only [hl8_3]); (with_reducible repeat (first | apply Kd.R_alloc | apply Kd.R_drewN | apply Kd.R_drew)); exact HO_8.out⟩, ⟨by (try simp only [hl8_2]); (try simp only [hl8_3]); (with_reducible repeat (first | refine blk_drewN ?_ _ | refine blk_drew ?_ | refine blk_alloc ?_ _)); exact BK228.out⟩, ⟨by repeat (first | (with_reducible first | exact HB.out | apply below_alloc | apply pw_below_drewN | apply below_drew1 | refine below_set ?_ GE228.out) | exact HB.out)⟩⟩
                                      · rw [if_neg c34] at H
                                        exact absurd H (by simp)
                                    · rw [if_neg c33] at H
                                      exact absurd H (by simp)
                                  · replace c32 := Bool.eq_false_iff.mpr c32
                                    subst c32
                                    have H1 : (empennageref04_Path.l1 k3 a2 x8_3 x9_2 (wrap64 (x10_3 + 1)) a0_0 a0_1 l0_2 l0_3 l0_4) = some r := by rw [if_neg (show ¬ (false = true) by decide)] at H; exact H
                                    clear H
                                    have H := H1
                                    clear H1
                                    have H' := Aside0.mk H
                                    clear H
                                    have hcz39_0 : wr.cell? ⟨gb228, 0, none⟩ = some (.int .i64 a0_0) := (blk_cell BK228.out 0).trans rfl
                                    have hcz39_1 : wr.cell? ⟨gb228, 1, none⟩ = some (.int .i64 a0_1) := (blk_cell BK228.out 1).trans rfl
                                    have hcz39_2 : wr.cell? ⟨gb228, 2, none⟩ = some (.slice A0_2 l0_2.length c0_2) := (blk_cell BK228.out 2).trans rfl
                                    have hcz39_3 : wr.cell? ⟨gb228, 3, none⟩ = some (.slice A0_3 l0_3.length c0_3) := (blk_cell BK228.out 3).trans rfl
                                    have hcz39_4 : wr.cell? ⟨gb228, 4, none⟩ = some (.slice A0_4 l0_4.length c0_4) := (blk_cell BK228.out 4).trans rfl
                                    have hfz39_0 := blk_frozen BK228.out 0
                                    have hfz39_1 := blk_frozen BK228.out 1
                                    have hfz39_2 := blk_frozen BK228.out 2
                                    have hfz39_3 := blk_frozen BK228.out 3
                                    have hfz39_4 := blk_frozen BK228.out 4
                                    have p237 : 0 ≤ (x10_3 : Int) := of_decide_eq_true (by first | (with_reducible assumption) | assumption)
                                    have q237 : x10_3 < (l0_3.length : Int) := of_decide_eq_true (by first | (with_reducible assumption) | assumption)
                                    obtain ⟨ad237, e237, hx237_0, hx237_1, hx237_2, hx237_3, hx237_4, hx237_5, hx237_6, hx237_7, hx237_8, hx237_9, hx237_10⟩ := at_T35 HR0_3.out x10_3 p237 q237
                                    cases e237
                                    replace hx237_0 := (HB.out.cell (World.block_lt_of_cell? w _ hx237_0)).trans hx237_0
                                    replace hx237_1 := (HB.out.cell (World.block_lt_of_cell? w _ hx237_1)).trans hx237_1
                                    replace hx237_2 := (HB.out.cell (World.block_lt_of_cell? w _ hx237_2)).trans hx237_2
                                    replace hx237_3 := (HB.out.cell (World.block_lt_of_cell? w _ hx237_3)).trans hx237_3
                                    replace hx237_4 := (HB.out.cell (World.block_lt_of_cell? w _ hx237_4)).trans hx237_4
                                    replace hx237_5 := (HB.out.cell (World.block_lt_of_cell? w _ hx237_5)).trans hx237_5
                                    replace hx237_6 := (HB.out.cell (World.block_lt_of_cell? w _ hx237_6)).trans hx237_6
                                    replace hx237_7 := (HB.out.cell (World.block_lt_of_cell? w _ hx237_7)).trans hx237_7
                                    replace hx237_8 := (HB.out.cell (World.block_lt_of_cell? w _ hx237_8)).trans hx237_8
                                    replace hx237_9 := (HB.out.cell (World.block_lt_of_cell? w _ hx237_9)).trans hx237_9
                                    replace hx237_10 := (HB.out.cell (World.block_lt_of_cell? w _ hx237_10)).trans hx237_10
                                    replace p237 := eq_true p237
                                    replace q237 := eq_true q237
                                    have p238 : 0 ≤ (((rd_T35 l0_3 x10_3).f1) : Int) := of_decide_eq_true (by first | (with_reducible assumption) | assumption)
                                    have q238 : ((rd_T35 l0_3 x10_3).f1) < (x8_3.length : Int) := of_decide_eq_true (by first | (with_reducible assumption) | assumption)
                                    obtain ⟨ad238, e238, hx238_0⟩ := Kd.at_bool (Kd.R_reads' HO_8.out).2.2 ((rd_T35 l0_3 x10_3).f1) p238 q238
                                    (try rw [← Nbq31.out] at hx238_0)
                                    obtain rfl : (⟨go20, 0, none⟩ : Addr) = ad238 := (by injection e238)
                                    (first | simp only [add_plain] at hx238_0 | simp only [add_at] at hx238_0 | simp only [Addr.add, Nat.zero_add] at hx238_0 | skip)
                                    replace p238 := eq_true p238
                                    replace q238 := eq_true q238
                                    go_wp2
                                    (try simp only [← hl8_3])
                                    go_roundg k3
                                    case measure => have := HJ4.out; have := HK2.out; have := HK3.out; omega
                                    case rel => exact ⟨(x8_3), (wrap64 (x10_3 + 1)), (by first | rfl | (simp; done) | (simp [*]; done)), H', ⟨by have := HJ4.out; have := HK2.out; have := HK3.out; omega⟩, ⟨by (try simp only [hl8_2]); (try simp only [hl8_3]); (with_reducible repeat (first | apply Kd.R_alloc | apply Kd.R_drewN | apply Kd.R_drew)); exact HO_8.out⟩, ⟨by (try simp only [hl8_2]); (try simp only [hl8_3]); (with_reducible repeat (first | refine blk_drewN ?_ _ | refine blk_drew ?_ | refine blk_alloc ?_ _)); exact BK228.out⟩, ⟨by repeat (first | (with_reducible first | exact HB.out | apply below_alloc | apply pw_below_drewN | apply below_drew1 | refine below_set ?_ GE228.out) | exact HB.out)⟩⟩
                                · rw [if_neg c30] at H
                                  exact absurd H (by simp)
                              · rw [if_neg c29] at H
                                exact absurd H (by simp)
                            · rw [if_neg c28] at H
                              exact absurd H (by simp)
                          · rw [if_neg c27] at H
                            have c27b0 : decide (x10_3 < (l0_3.length : Int)) = false := decide_eq_false c27
                            clear c27
                            have H' := Aside0.mk H
                            clear H
                            have hcz40_0 : wr.cell? ⟨gb228, 0, none⟩ = some (.int .i64 a0_0) := (blk_cell BK228.out 0).trans rfl
                            have hcz40_1 : wr.cell? ⟨gb228, 1, none⟩ = some (.int .i64 a0_1) := (blk_cell BK228.out 1).trans rfl
                            have hcz40_2 : wr.cell? ⟨gb228, 2, none⟩ = some (.slice A0_2 l0_2.length c0_2) := (blk_cell BK228.out 2).trans rfl
                            have hcz40_3 : wr.cell? ⟨gb228, 3, none⟩ = some (.slice A0_3 l0_3.length c0_3) := (blk_cell BK228.out 3).trans rfl
                            have hcz40_4 : wr.cell? ⟨gb228, 4, none⟩ = some (.slice A0_4 l0_4.length c0_4) := (blk_cell BK228.out 4).trans rfl
                            have hfz40_0 := blk_frozen BK228.out 0
                            have hfz40_1 := blk_frozen BK228.out 1
                            have hfz40_2 := blk_frozen BK228.out 2
                            have hfz40_3 := blk_frozen BK228.out 3
                            have hfz40_4 := blk_frozen BK228.out 4
                            go_wp2
                            (try simp only [← hl8_2, ← hl8_3])
                            go_roundg k3
                            case measure => have := HJ4.out; have := HK2.out; have := HK3.out; omega
                            case rel => exact ⟨(x8_3), (wrap64 (x9_2 + 1)), (by first | rfl | (simp; done) | (simp [*]; done)), H', ⟨by have := HJ4.out; have := HK2.out; have := HK3.out; omega⟩, ⟨by (try simp only [hl8_2]); (try simp only [hl8_3]); (with_reducible repeat (first | apply Kd.R_alloc | apply Kd.R_drewN | apply Kd.R_drew)); exact HO_8.out⟩, ⟨by (try simp only [hl8_2]); (try simp only [hl8_3]); (with_reducible repeat (first | refine blk_drewN ?_ _ | refine blk_drew ?_ | refine blk_alloc ?_ _)); exact BK228.out⟩, ⟨by repeat (first | (with_reducible first | exact HB.out | apply below_alloc | apply pw_below_drewN | apply below_drew1 | refine below_set ?_ GE228.out) | exact HB.out)⟩⟩
                    · rw [if_neg c26] at H
                      have c26b0 : decide (x9_2 < 4) = false := decide_eq_false c26
                      clear c26
                      by_cases c41 : 0 ≤ a2
                      · rw [if_pos c41] at H
                        have c41b0 : decide (0 ≤ a2) = true := decide_eq_true c41
                        clear c41
                        by_cases c42 : a2 < (x8_2.length : Int)
                        · rw [if_pos c42] at H
                          have c42b0 : decide (a2 < (x8_2.length : Int)) = true := decide_eq_true c42
                          clear c42
                          obtain rfl := Option.some.inj H
                          have p236 : 0 ≤ (a2 : Int) := of_decide_eq_true (by first | (with_reducible assumption) | assumption)
                          have q236 : a2 < (x8_2.length : Int) := of_decide_eq_true (by first | (with_reducible assumption) | assumption)
                          obtain ⟨ad236, e236, hx236_0⟩ := Kd.at_bool (Kd.R_reads' HO_8.out).2.2 a2 p236 q236
                          obtain rfl : (⟨go20, 0, none⟩ : Addr) = ad236 := (by injection e236)
                          (first | simp only [add_plain] at hx236_0 | simp only [add_at] at hx236_0 | simp only [Addr.add, Nat.zero_add] at hx236_0 | skip)
                          replace p236 := eq_true p236
                          replace q236 := eq_true q236
                          go_wp2
                          go_ret
                          exact ⟨by first | rfl | (simp [errW_none, errW_some] <;> rfl) | (simp [*, errW_none, errW_some] <;> rfl), by repeat (first | (with_reducible first | exact HB.out | apply below_alloc | apply pw_below_drewN | apply below_drew1 | refine below_set ?_ GE228.out) | exact HB.out)⟩
                        · rw [if_neg c42] at H
                          exact absurd H (by simp)
                      · rw [if_neg c41] at H
                        exact absurd H (by simp)
              · rw [if_neg c19] at H
                exact absurd H (by simp)
            · rw [if_neg c18] at H
              exact absurd H (by simp)
          · rw [if_neg c17] at H
            exact absurd H (by simp)
        · rw [if_neg c16] at H
          exact absurd H (by simp)
/-! ### empennageref04_Into: function 19 -/
def empennageref04_Into.l0 : Nat → Int → List Int → Int → Int → Int → List (S33) → List (S35) → List Int → Option (List Int)
  | 0, _, _, _, _, _, _, _, _ => none
  | k + 1, x1, x5, x6, x245000, x245001, x245002, x245003, x245004 => if x6 < 4 then ((empennageref04_Path.f k x245000 x245001 x245002 x245003 x245004 x6 x1).bind fun t245 => (if t245 = true then (if x5.length < 17592186044416 then (empennageref04_Into.l0 k x1 (x5 ++ [x6]) (wrap64 (x6 + 1)) x245000 x245001 x245002 x245003 x245004) else (none)) else (empennageref04_Into.l0 k x1 x5 (wrap64 (x6 + 1)) x245000 x245001 x245002 x245003 x245004))) else (some x5)
def empennageref04_Into.f (k : Nat) (a0_0 : Int) (a0_1 : Int) (l0_2 : List (S33)) (l0_3 : List (S35)) (l0_4 : List Int) (a1 : Int) : Option (List Int) := empennageref04_Into.l0 k a1 ([] : List Int) 0 a0_0 a0_1 l0_2 l0_3 l0_4
theorem empennageref04_Into.mono_l : ∀ k, (∀ y0 y1 y2 y3 y4 y5 y6 y7, LeO (empennageref04_Into.l0 k y0 y1 y2 y3 y4 y5 y6 y7) (empennageref04_Into.l0 (k + 1) y0 y1 y2 y3 y4 y5 y6 y7))
  | 0 => fun _ _ _ _ _ _ _ _ r h => by simp [empennageref04_Into.l0] at h
  | k + 1 => by
    have ih0 := empennageref04_Into.mono_l k
    · intro y0 y1 y2 y3 y4 y5 y6 y7
      unfold empennageref04_Into.l0
      repeat' first
      | (with_reducible exact ih0 _ _ _ _ _ _ _ _)
      | (with_reducible exact empennageref04_Path.mono _ _ _ _ _ _ _ _)
      | (with_reducible exact LeO.refl _)
      | (with_reducible exact LeO.none _)
      | (with_reducible refine LeO.ite ?_ ?_)
      | (with_reducible refine LeO.bind ?_ (fun _ => ?_))
      | exact ih0 _ _ _ _ _ _ _ _
      | exact empennageref04_Path.mono _ _ _ _ _ _ _ _
      | exact LeO.none _
      | refine LeO.ite ?_ ?_
      | refine LeO.bind ?_ (fun _ => ?_)
theorem empennageref04_Into.mono : ∀ a0 a1 a2 a3 a4 a5 k, LeO (empennageref04_Into.f k a0 a1 a2 a3 a4 a5) (empennageref04_Into.f (k + 1) a0 a1 a2 a3 a4 a5) := by
  intro a0 a1 a2 a3 a4 a5 k
  have ih0 := empennageref04_Into.mono_l k
  unfold empennageref04_Into.f
  repeat' first
      | (with_reducible exact ih0 _ _ _ _ _ _ _ _)
      | (with_reducible exact empennageref04_Path.mono _ _ _ _ _ _ _ _)
      | (with_reducible exact LeO.refl _)
      | (with_reducible exact LeO.none _)
      | (with_reducible refine LeO.ite ?_ ?_)
      | (with_reducible refine LeO.bind ?_ (fun _ => ?_))
      | exact ih0 _ _ _ _ _ _ _ _
      | exact empennageref04_Path.mono _ _ _ _ _ _ _ _
      | exact LeO.none _
      | refine LeO.ite ?_ ?_
      | refine LeO.bind ?_ (fun _ => ?_)
set_option maxHeartbeats 8000000 in
set_option maxRecDepth 100000 in
theorem empennageref04_Into.calls (k : Nat) (a0_0 : Int) (a0_1 : Int) (A0_2 : Option Addr) (c0_2 : Nat) (l0_2 : List (S33)) (A0_3 : Option Addr) (c0_3 : Nat) (l0_3 : List (S35)) (A0_4 : Option Addr) (c0_4 : Nat) (l0_4 : List Int) (a1 : Int) (r : List Int) (w : World) (hr0_2 : Kd.C k33 w A0_2 l0_2.length l0_2) (hc0_2 : l0_2.length ≤ c0_2) (hr0_3 : Kd.C k35 w A0_3 l0_3.length l0_3) (hc0_3 : l0_3.length ≤ c0_3) (hr0_4 : Kd.C (Kd.int .i64) w A0_4 l0_4.length l0_4) (hc0_4 : l0_4.length ≤ c0_4) (h : empennageref04_Into.f k a0_0 a0_1 l0_2 l0_3 l0_4 a1 = some r) :
    Calls Tryd.prog 19 #[.agg #[.int .i64 a0_0, .int .i64 a0_1, .slice A0_2 l0_2.length c0_2, .slice A0_3 l0_3.length c0_3, .slice A0_4 l0_4.length c0_4], .int .i64 a1] w fun e w' => ∃ v0_ : Value, e = .returned (v0_) ∧ Kd.R (Kd.int .i64) 3 w' w.heap.size (fun _ => True) v0_ r ∧ Below w.heap.size w w' := by
  have hu26 := Tryd.underlying26
  have HR0_2 := Aside0.mk hr0_2
  have HC0_2 := Aside0.mk hc0_2
  clear hr0_2 hc0_2
  have HR0_3 := Aside0.mk hr0_3
  have HC0_3 := Aside0.mk hc0_3
  clear hr0_3 hc0_3
  have HR0_4 := Aside0.mk hr0_4
  have HC0_4 := Aside0.mk hc0_4
  clear hr0_4 hc0_4
  have HB := Aside0.mk (Below.refl w.heap.size w)
  have H : (empennageref04_Into.l0 k a1 ([] : List Int) 0 a0_0 a0_1 l0_2 l0_3 l0_4) = some r := h
  clear h
  have H' := Aside0.mk H
  clear H
  go_enter Tryd.func19, Tryd.ntmps19
  go_wp2_with (first | ((with_reducible refine gate_dst (N := 2) rfl ?_); refine box_event ?hg (N := 2) ?hd (cs := #[.int .i64 a0_0, .int .i64 a0_1, .slice A0_2 l0_2.length c0_2, .slice A0_3 l0_3.length c0_3, .slice A0_4 l0_4.length c0_4]) (t := 26) ?hr ?_; (case hd => rfl); (case hg => rfl); (case hr => first | (go_simp; done) | (go_simp; rfl)); intro gb244 hg w3 hbox hb; have n0_ := Aside0.mk (below_step (by repeat (first | (with_reducible first | exact HB.out | apply below_alloc | apply pw_below_drewN | apply below_drew1) | exact HB.out)) hb); have n1_ := Aside0.mk (hbox); have n2_ := Aside0.mk ((by rw [hg]; exact (below_size (by repeat (first | (with_reducible first | exact HB.out | apply below_alloc | apply pw_below_drewN | apply below_drew1) | exact HB.out))) : w.heap.size ≤ gb244)); have n3_ := Aside0.mk ((by rw [hg]; exact (below_size (by repeat (first | (with_reducible first | exact HB.out | apply below_alloc | apply pw_below_drewN | apply below_drew1) | exact HB.out))) : w.heap.size ≤ gb244)); clear HB; have HB := n0_; have BK244 := n1_; have GW244 := n2_; have GE244 := n3_; clear n0_ n1_ n2_ n3_; clear hb hbox hg))
  go_loopg [5, 6] k (fun kq v5 v6 w' => ∃ (x5_1 : List Int) (x6_1 : Int), v6 = .int .i64 x6_1 ∧ Aside0 (empennageref04_Into.l0 kq a1 x5_1 x6_1 a0_0 a0_1 l0_2 l0_3 l0_4 = some r) ∧ Aside0 (kq ≤ k) ∧ Aside0 (Kd.R (Kd.int .i64) 3 w' w.heap.size (fun _ => True) v5 x5_1) ∧ Aside0 (w'.heap[gb244]? = some (.cells #[.int .i64 a0_0, .int .i64 a0_1, (.slice A0_2 l0_2.length c0_2), (.slice A0_3 l0_3.length c0_3), (.slice A0_4 l0_4.length c0_4)] 26 (0, 0))) ∧ Aside0 (Below w.heap.size w w'))
  case atStart => exact ⟨(([] : List Int)), (0), (by first | rfl | (simp; done) | (simp [*]; done)), H', ⟨Nat.le_refl _⟩, ⟨by first | exact Kd.R_nil _ _ _ _ _ | exact Kd.N_nil _ _ _ _ _ | exact Kd.V_nil _ _ _ _ _ | exact Kd.Q_nil _ _ _ _ _ | exact Kd.S_nil _ _ _ _ _⟩, ⟨by (with_reducible repeat (first | refine blk_drewN ?_ _ | refine blk_drew ?_ | refine blk_alloc ?_ _)); exact BK244.out⟩, ⟨by repeat (first | (with_reducible first | exact HB.out | apply below_alloc | apply pw_below_drewN | apply below_drew1 | refine below_set ?_ GE244.out) | exact HB.out)⟩⟩
  case round =>
    clear H'
    try clear c1
    try clear p2
    obtain ⟨x5_1, x6_1, rfl, HA, HK1, HO_5, BK244, HB⟩ := hrel
    cases gk with
    | zero => exact absurd HA.out (by simp [empennageref04_Into.l0])
    | succ k1 =>
      have H := HA.out
      clear HA
      simp only [empennageref04_Into.l0] at H
      by_cases c4 : x6_1 < 4
      · rw [if_pos c4] at H
        have c4b0 : decide (x6_1 < 4) = true := decide_eq_true c4
        clear c4
        replace H := Option.bind_eq_some_iff.mp H
        obtain ⟨t245, A50, H⟩ := H
        replace H : (if t245 = true then (if x5_1.length < 17592186044416 then (empennageref04_Into.l0 k1 a1 (x5_1 ++ [x6_1]) (wrap64 (x6_1 + 1)) a0_0 a0_1 l0_2 l0_3 l0_4) else (none)) else (empennageref04_Into.l0 k1 a1 x5_1 (wrap64 (x6_1 + 1)) a0_0 a0_1 l0_2 l0_3 l0_4)) = some r := H
        have A5 := Aside0.mk A50
        clear A50
        by_cases c6 : t245 = true
        · subst c6
          have H1 : (if x5_1.length < 17592186044416 then (empennageref04_Into.l0 k1 a1 (x5_1 ++ [x6_1]) (wrap64 (x6_1 + 1)) a0_0 a0_1 l0_2 l0_3 l0_4) else (none)) = some r := by rw [if_pos rfl] at H; exact H
          clear H
          have H := H1
          clear H1
          by_cases c7 : x5_1.length < 17592186044416
          · rw [if_pos c7] at H
            have LMc7 := Aside0.mk c7
            clear c7
            obtain ⟨y246, hy246⟩ : ∃ y_ : List Int, y_ = (x5_1 ++ [x6_1]) := ⟨_, rfl⟩
            replace H : (empennageref04_Into.l0 k1 a1 y246 (wrap64 (x6_1 + 1)) a0_0 a0_1 l0_2 l0_3 l0_4) = some r := by first | (rw [hy246]; with_reducible exact H) | (have H2_ := (Option.bind_some _ _).symm.trans H; rw [hy246]; with_reducible exact H2_) | (have H2_ := (Option.bind_some _ _).symm.trans H; with_reducible exact H2_) | with_reducible exact H | (rw [hy246]; exact H) | exact H
            have Ny246 := Aside0.mk hy246
            clear hy246
            have H' := Aside0.mk H
            clear H
            have hcz8_0 : wr.cell? ⟨gb244, 0, none⟩ = some (.int .i64 a0_0) := (blk_cell BK244.out 0).trans rfl
            have hcz8_1 : wr.cell? ⟨gb244, 1, none⟩ = some (.int .i64 a0_1) := (blk_cell BK244.out 1).trans rfl
            have hcz8_2 : wr.cell? ⟨gb244, 2, none⟩ = some (.slice A0_2 l0_2.length c0_2) := (blk_cell BK244.out 2).trans rfl
            have hcz8_3 : wr.cell? ⟨gb244, 3, none⟩ = some (.slice A0_3 l0_3.length c0_3) := (blk_cell BK244.out 3).trans rfl
            have hcz8_4 : wr.cell? ⟨gb244, 4, none⟩ = some (.slice A0_4 l0_4.length c0_4) := (blk_cell BK244.out 4).trans rfl
            have hfz8_0 := blk_frozen BK244.out 0
            have hfz8_1 := blk_frozen BK244.out 1
            have hfz8_2 := blk_frozen BK244.out 2
            have hfz8_3 := blk_frozen BK244.out 3
            have hfz8_4 := blk_frozen BK244.out 4
            go_wp2_with (first | ((with_reducible refine gate_callee (f := 16) rfl ?_); refine goesL_ (some 15) rfl rfl Tryd.func16 (by kernel_rfl) rfl #[.agg #[.int .i64 a0_0, .int .i64 a0_1, .slice A0_2 l0_2.length c0_2, .slice A0_3 l0_3.length c0_3, .slice A0_4 l0_4.length c0_4], .int .i64 x6_1, .int .i64 a1] rfl (by (try simp only [List.map_toArray, List.map_cons, List.map_nil]); first | done | rfl | (simp only [List.length_drop, List.length_take]; rfl)) ?_; (with_reducible refine (empennageref04_Path.calls k1 a0_0 a0_1 _ _ l0_2 _ _ l0_3 _ _ l0_4 x6_1 a1 true _ ?side1 ?side2 ?side3 ?side4 ?side5 ?side6 A5.out).mono ?_); (case side1 => repeat (first | exact (Kd.C_below HR0_2.out HB.out) | (with_reducible refine Kd.C_alloc ?_ _) | (with_reducible refine Kd.C_drewN ?_ _) | (with_reducible refine Kd.C_drew ?_))); (case side2 => exact HC0_2.out); (case side3 => repeat (first | exact (Kd.C_below HR0_3.out HB.out) | (with_reducible refine Kd.C_alloc ?_ _) | (with_reducible refine Kd.C_drewN ?_ _) | (with_reducible refine Kd.C_drew ?_))); (case side4 => exact HC0_3.out); (case side5 => repeat (first | exact (Kd.C_below HR0_4.out HB.out) | (with_reducible refine Kd.C_alloc ?_ _) | (with_reducible refine Kd.C_drewN ?_ _) | (with_reducible refine Kd.C_drew ?_))); (case side6 => exact HC0_4.out); rintro e w9 ⟨rfl, hb⟩; refine ⟨_, rfl, ?_⟩; have n0_ := Aside0.mk (Kd.R_below (by (with_reducible repeat (first | apply Kd.R_alloc | apply Kd.R_drewN | apply Kd.R_drew)); exact HO_5.out) hb); have n1_ := Aside0.mk (blk_below (g := gb244) (o := .cells #[.int .i64 a0_0, .int .i64 a0_1, .slice A0_2 l0_2.length c0_2, .slice A0_3 l0_3.length c0_3, .slice A0_4 l0_4.length c0_4] 26 (0, 0)) (by (with_reducible repeat (first | refine blk_drewN ?_ _ | refine blk_drew ?_ | refine blk_alloc ?_ _)); exact BK244.out) hb); have n2_ := Aside0.mk (below_step (by repeat (first | (with_reducible first | exact HB.out | apply below_alloc | apply pw_below_drewN | apply below_drew1 | refine below_set ?_ GE244.out) | exact HB.out)) hb); clear HO_5; clear BK244; clear HB; have HO_5 := n0_; have BK244 := n1_; have HB := n2_; clear n0_ n1_ n2_; (try clear hb); (try clear hb2); (try clear hk); (try clear hi)) | ((with_reducible refine gate_builtin (b := .append) (xs := #[.tmp 17, .tmp 19]) rfl ?_); at_builtin; refine Kd.R_append (Kd.int .i64) (w0 := w) w.heap.size rfl (.tmp 17) (.tmp 19) 24 3 (.int .i64 0) 8 rfl Tryd.underlying24 info3 rfl (by decide) (by omega) u5 x5_1 x6_1 [.int .i64 x6_1] (fun _ => True) (fun _ => False) rfl rfl ?aP (fun _ hk => hk.elim) ?aF ?aO ?aB ?aS ?aL ?_; (case aP => exact rfl); (case aB => exact (by repeat (first | (with_reducible first | exact HB.out | apply below_alloc | apply pw_below_drewN | apply below_drew1 | refine below_set ?_ GE244.out) | exact HB.out))); (case aF => exact (fun _ _ => trivial)); (case aO => exact (by (with_reducible repeat (first | apply Kd.R_alloc | apply Kd.R_drewN | apply Kd.R_drew)); exact HO_5.out)); (case aS => exact (below_size (by repeat (first | (with_reducible first | exact HB.out | apply below_alloc | apply pw_below_drewN | apply below_drew1 | refine below_set ?_ GE244.out) | exact HB.out)))); (case aL => have := LMc7.out; omega); intro v247 w10 ho hb hg hat; rw [← Ny246.out] at ho; have n0_ := Aside0.mk (blk_grown (g := gb244) (o := .cells #[.int .i64 a0_0, .int .i64 a0_1, .slice A0_2 l0_2.length c0_2, .slice A0_3 l0_3.length c0_3, .slice A0_4 l0_4.length c0_4] 26 (0, 0)) (by (with_reducible repeat (first | refine blk_drewN ?_ _ | refine blk_drew ?_ | refine blk_alloc ?_ _)); exact BK244.out) hg (Kd.R_ne HO_5.out BK244.out (by decide))); have n1_ := Aside0.mk (hb); have n2_ := Aside0.mk (ho); clear BK244; clear HB; clear HO_5; have BK244 := n0_; have HB := n1_; have HO248 := n2_; clear n0_ n1_ n2_; clear ho hb hg hat))
            go_roundg k1
            case measure => have := HK1.out; omega
            case rel => exact ⟨(y246), (wrap64 (x6_1 + 1)), (by first | rfl | (simp; done) | (simp [*]; done)), H', ⟨by have := HK1.out; omega⟩, ⟨by (with_reducible repeat (first | apply Kd.R_alloc | apply Kd.R_drewN | apply Kd.R_drew)); exact HO248.out⟩, ⟨by (with_reducible repeat (first | refine blk_drewN ?_ _ | refine blk_drew ?_ | refine blk_alloc ?_ _)); exact BK244.out⟩, ⟨by repeat (first | (with_reducible first | exact HB.out | apply below_alloc | apply pw_below_drewN | apply below_drew1 | refine below_set ?_ GE244.out) | exact HB.out)⟩⟩
          · rw [if_neg c7] at H
            exact absurd H (by simp)
        · replace c6 := Bool.eq_false_iff.mpr c6
          subst c6
          have H1 : (empennageref04_Into.l0 k1 a1 x5_1 (wrap64 (x6_1 + 1)) a0_0 a0_1 l0_2 l0_3 l0_4) = some r := by rw [if_neg (show ¬ (false = true) by decide)] at H; exact H
          clear H
          have H := H1
          clear H1
          have H' := Aside0.mk H
          clear H
          have hcz11_0 : wr.cell? ⟨gb244, 0, none⟩ = some (.int .i64 a0_0) := (blk_cell BK244.out 0).trans rfl
          have hcz11_1 : wr.cell? ⟨gb244, 1, none⟩ = some (.int .i64 a0_1) := (blk_cell BK244.out 1).trans rfl
          have hcz11_2 : wr.cell? ⟨gb244, 2, none⟩ = some (.slice A0_2 l0_2.length c0_2) := (blk_cell BK244.out 2).trans rfl
          have hcz11_3 : wr.cell? ⟨gb244, 3, none⟩ = some (.slice A0_3 l0_3.length c0_3) := (blk_cell BK244.out 3).trans rfl
          have hcz11_4 : wr.cell? ⟨gb244, 4, none⟩ = some (.slice A0_4 l0_4.length c0_4) := (blk_cell BK244.out 4).trans rfl
          have hfz11_0 := blk_frozen BK244.out 0
          have hfz11_1 := blk_frozen BK244.out 1
          have hfz11_2 := blk_frozen BK244.out 2
          have hfz11_3 := blk_frozen BK244.out 3
          have hfz11_4 := blk_frozen BK244.out 4
          go_wp2_with (first | ((with_reducible refine gate_callee (f := 16) rfl ?_); refine goesL_ (some 15) rfl rfl Tryd.func16 (by kernel_rfl) rfl #[.agg #[.int .i64 a0_0, .int .i64 a0_1, .slice A0_2 l0_2.length c0_2, .slice A0_3 l0_3.length c0_3, .slice A0_4 l0_4.length c0_4], .int .i64 x6_1, .int .i64 a1] rfl (by (try simp only [List.map_toArray, List.map_cons, List.map_nil]); first | done | rfl | (simp only [List.length_drop, List.length_take]; rfl)) ?_; (with_reducible refine (empennageref04_Path.calls k1 a0_0 a0_1 _ _ l0_2 _ _ l0_3 _ _ l0_4 x6_1 a1 false _ ?side1 ?side2 ?side3 ?side4 ?side5 ?side6 A5.out).mono ?_); (case side1 => repeat (first | exact (Kd.C_below HR0_2.out HB.out) | (with_reducible refine Kd.C_alloc ?_ _) | (with_reducible refine Kd.C_drewN ?_ _) | (with_reducible refine Kd.C_drew ?_))); (case side2 => exact HC0_2.out); (case side3 => repeat (first | exact (Kd.C_below HR0_3.out HB.out) | (with_reducible refine Kd.C_alloc ?_ _) | (with_reducible refine Kd.C_drewN ?_ _) | (with_reducible refine Kd.C_drew ?_))); (case side4 => exact HC0_3.out); (case side5 => repeat (first | exact (Kd.C_below HR0_4.out HB.out) | (with_reducible refine Kd.C_alloc ?_ _) | (with_reducible refine Kd.C_drewN ?_ _) | (with_reducible refine Kd.C_drew ?_))); (case side6 => exact HC0_4.out); rintro e w12 ⟨rfl, hb⟩; refine ⟨_, rfl, ?_⟩; have n0_ := Aside0.mk (Kd.R_below (by (with_reducible repeat (first | apply Kd.R_alloc | apply Kd.R_drewN | apply Kd.R_drew)); exact HO_5.out) hb); have n1_ := Aside0.mk (blk_below (g := gb244) (o := .cells #[.int .i64 a0_0, .int .i64 a0_1, .slice A0_2 l0_2.length c0_2, .slice A0_3 l0_3.length c0_3, .slice A0_4 l0_4.length c0_4] 26 (0, 0)) (by (with_reducible repeat (first | refine blk_drewN ?_ _ | refine blk_drew ?_ | refine blk_alloc ?_ _)); exact BK244.out) hb); have n2_ := Aside0.mk (below_step (by repeat (first | (with_reducible first | exact HB.out | apply below_alloc | apply pw_below_drewN | apply below_drew1 | refine below_set ?_ GE244.out) | exact HB.out)) hb); clear HO_5; clear BK244; clear HB; have HO_5 := n0_; have BK244 := n1_; have HB := n2_; clear n0_ n1_ n2_; (try clear hb); (try clear hb2); (try clear hk); (try clear hi)))
          go_roundg k1
          case measure => have := HK1.out; omega
          case rel => exact ⟨(x5_1), (wrap64 (x6_1 + 1)), (by first | rfl | (simp; done) | (simp [*]; done)), H', ⟨by have := HK1.out; omega⟩, ⟨by (with_reducible repeat (first | apply Kd.R_alloc | apply Kd.R_drewN | apply Kd.R_drew)); exact HO_5.out⟩, ⟨by (with_reducible repeat (first | refine blk_drewN ?_ _ | refine blk_drew ?_ | refine blk_alloc ?_ _)); exact BK244.out⟩, ⟨by repeat (first | (with_reducible first | exact HB.out | apply below_alloc | apply pw_below_drewN | apply below_drew1 | refine below_set ?_ GE244.out) | exact HB.out)⟩⟩
      · rw [if_neg c4] at H
        have c4b0 : decide (x6_1 < 4) = false := decide_eq_false c4
        clear c4
        obtain rfl := Option.some.inj H
        go_wp2
        go_ret
        exact ⟨_, by first | rfl | (simp [errW_none, errW_some] <;> rfl) | (simp [*, errW_none, errW_some] <;> rfl), by (with_reducible repeat (first | apply Kd.R_alloc | apply Kd.R_drewN | apply Kd.R_drew)); exact HO_5.out, by repeat (first | (with_reducible first | exact HB.out | apply below_alloc | apply pw_below_drewN | apply below_drew1 | refine below_set ?_ GE244.out) | exact HB.out)⟩
end Go.Proofs.YtehcgojcmcahnaaDoor.PConfigSame
