/- BoundServes: the walk. -/
import Derived.Test.YtcebmgndniejcaaDoorBp
import Derived.Test.YtcebmgndniejcaaDoorBr
import Derived.Test.YtcebmgndniejcaaDoorGw
import Derived.Test.YtcebmgndniejcaaDoorFew
import Derived.Deep.RegionHeld3
set_option linter.unusedVariables false
set_option linter.unusedSimpArgs false
namespace Go.Proofs.YtcebmgndniejcaaDoor.Wn
open Go Go.RowKit Go.Shelf Go.Proofs.YtcebmgndniejcaaDoorW.PrintWords Go.Proofs.YtcebmgndniejcaaDoorW.PrintLast Go.Proofs.YtcebmgndniejcaaDoorW.PrintMore Go.Proofs.YtcebmgndniejcaaDoor.Cz Go.Proofs.YtcebmgndniejcaaDoor.PBoundWaits Go.Proofs.YtcebmgndniejcaaDoor.Cf Go.Proofs.YtcebmgndniejcaaDoor.Sat
attribute [local go_sem] max2_int min2_int max_two min_two max_three min_three max_four min_four Tryd.underlying26 Tryd.underlying41 Tryd.underlying43
set_option maxHeartbeats 16000000 in
set_option maxRecDepth 100000 in
theorem boundServes_any (x0 : Int) (x1 : Int) (x2 : Int) {C : Cfg} {A2 A3 A4 : Option Addr} {Ac2 Ac3 Ac4 : Nat} {w : World} (h : CX w C A2 Ac2 A3 Ac3 A4 Ac4)
    (l2 : C.ws.length ≤ maxLen) (l3 : C.ks.length ≤ maxLen) (l4 : C.ac.length ≤ maxLen) (hg : LG w) :
    Calls Tryd.prog 3 #[.agg #[.int .i64 C.p, .int .i64 C.f, .slice A2 C.ws.length Ac2, .slice A3 C.ks.length Ac3, .slice A4 C.ac.length Ac4], .agg #[.int .i64 x0, .int .i64 x1, .int .i64 x2]] w fun e w' => e = .returned (.bool true) ∧ Below w.heap.size w w' := by
  have FA := Aside0.mk (fun w1 (hb : Below w.heap.size w w1) => few_any (h.below hb) l2 l3 l4)
  have HXD := Aside0.mk h.few
  have HG := Aside0.mk hg
  have hD2 : (fewC C).ws.length ≤ 10 ∧ (fewC C).ks.length ≤ 10 ∧ (fewC C).ac.length ≤ 10 := by unfold fewC; simp only [List.length_take]; omega
  have B1 := Aside0.mk (show ((w.alloc (.cells #[.int .i64 C.p, .int .i64 C.f, .slice A2 C.ws.length Ac2, .slice A3 C.ks.length Ac3, .slice A4 C.ac.length Ac4] 26)).alloc (.cells #[.int .i64 x0, .int .i64 x1, .int .i64 x2] 27)).heap[w.heap.size]? = some (.cells #[.int .i64 C.p, .int .i64 C.f, .slice A2 C.ws.length Ac2, .slice A3 C.ks.length Ac3, .slice A4 C.ac.length Ac4] 26 (0, 0)) ∧ Below w.heap.size w ((w.alloc (.cells #[.int .i64 C.p, .int .i64 C.f, .slice A2 C.ws.length Ac2, .slice A3 C.ks.length Ac3, .slice A4 C.ac.length Ac4] 26)).alloc (.cells #[.int .i64 x0, .int .i64 x1, .int .i64 x2] 27)) from ⟨blk_alloc (blk_new w _) _, below_alloc (below_alloc (Below.refl _ _) _) _⟩)
  have HAR := Aside0.mk (show ((w.alloc (.cells #[.int .i64 C.p, .int .i64 C.f, .slice A2 C.ws.length Ac2, .slice A3 C.ks.length Ac3, .slice A4 C.ac.length Ac4] 26)).alloc (.cells #[.int .i64 x0, .int .i64 x1, .int .i64 x2] 27)).heap[w.heap.size + 1]? = some (.cells #[.int .i64 x0, .int .i64 x1, .int .i64 x2] 27 (0, 0)) by have := blk_new (w.alloc (.cells #[.int .i64 C.p, .int .i64 C.f, .slice A2 C.ws.length Ac2, .slice A3 C.ks.length Ac3, .slice A4 C.ac.length Ac4] 26)) (.cells #[.int .i64 x0, .int .i64 x1, .int .i64 x2] 27); rw [World.size_alloc] at this; exact this)
  clear h l2 l3 l4 hg
  generalize fewC C = D at FA HXD hD2
  go_enter Tryd.func3, Tryd.ntmps3
  go_upto_region 3 with (first | (go_at_call 8; refine (lives_any (HG.out.below B1.out.2)).mono ?_; rintro e w2 ⟨rfl, hb⟩; have B2_ := Aside0.mk (And.intro (blk_below B1.out.1 hb) (below_step B1.out.2 hb)); have HARn := Aside0.mk (blk_below HAR.out hb); clear HAR; have HAR := HARn; clear HARn; clear hb))
  have s0 := (blk_cell B2_.out.1 0).trans (show _ = some (.int .i64 C.p) from rfl)
  have s1 := (blk_cell B2_.out.1 1).trans (show _ = some (.int .i64 C.f) from rfl)
  have s2 := (blk_cell B2_.out.1 2).trans (show _ = some (.slice A2 C.ws.length Ac2) from rfl)
  have s3 := (blk_cell B2_.out.1 3).trans (show _ = some (.slice A3 C.ks.length Ac3) from rfl)
  have s4 := (blk_cell B2_.out.1 4).trans (show _ = some (.slice A4 C.ac.length Ac4) from rfl)
  clear B1
  go_upto_region 4 with (first | (go_at_call 9; refine (FA.out _ B2_.out.2).mono ?_; rintro e w3 ⟨rfl, hb⟩; have B3 := Aside0.mk (And.intro (blk_below B2_.out.1 hb) (below_step B2_.out.2 hb)); have HARn := Aside0.mk (blk_below HAR.out hb); clear HAR; have HAR := HARn; clear HARn; clear hb s0 s1 s2 s3 s4; have s0 := (blk_cell B3.out.1 0).trans (show _ = some (.int .i64 C.p) from rfl); have s1 := (blk_cell B3.out.1 1).trans (show _ = some (.int .i64 C.f) from rfl); have s2 := (blk_cell B3.out.1 2).trans (show _ = some (.slice A2 C.ws.length Ac2) from rfl); have s3 := (blk_cell B3.out.1 3).trans (show _ = some (.slice A3 C.ks.length Ac3) from rfl); have s4 := (blk_cell B3.out.1 4).trans (show _ = some (.slice A4 C.ac.length Ac4) from rfl); have sf0 := blk_frozen B3.out.1 0; have sf1 := blk_frozen B3.out.1 1; have sf2 := blk_frozen B3.out.1 2; have sf3 := blk_frozen B3.out.1 3; have sf4 := blk_frozen B3.out.1 4))
  clear s0 s1 s2 s3 s4 sf0 sf1 sf2 sf3 sf4 B2_ FA
  have B4 : (((((w3.setCell ⟨w.heap.size, 0, none⟩ (.int .i64 D.p)).setCell ⟨w.heap.size, 1, none⟩ (.int .i64 D.f)).setCell ⟨w.heap.size, 2, none⟩ (.slice A2 D.ws.length Ac2)).setCell ⟨w.heap.size, 3, none⟩ (.slice A3 D.ks.length Ac3)).setCell ⟨w.heap.size, 4, none⟩ (.slice A4 D.ac.length Ac4)).heap[w.heap.size]? = some (.cells #[.int .i64 D.p, .int .i64 D.f, .slice A2 D.ws.length Ac2, .slice A3 D.ks.length Ac3, .slice A4 D.ac.length Ac4] 26 (0, 0)) ∧ Below w.heap.size w (((((w3.setCell ⟨w.heap.size, 0, none⟩ (.int .i64 D.p)).setCell ⟨w.heap.size, 1, none⟩ (.int .i64 D.f)).setCell ⟨w.heap.size, 2, none⟩ (.slice A2 D.ws.length Ac2)).setCell ⟨w.heap.size, 3, none⟩ (.slice A3 D.ks.length Ac3)).setCell ⟨w.heap.size, 4, none⟩ (.slice A4 D.ac.length Ac4)) := ⟨(blk_put (blk_put (blk_put (blk_put (blk_put B3.out.1 0 (.int .i64 D.p) rfl) 1 (.int .i64 D.f) rfl) 2 (.slice A2 D.ws.length Ac2) rfl) 3 (.slice A3 D.ks.length Ac3) rfl) 4 (.slice A4 D.ac.length Ac4) rfl), (below_set (below_set (below_set (below_set (below_set B3.out.2 (Nat.le_refl _)) (Nat.le_refl _)) (Nat.le_refl _)) (Nat.le_refl _)) (Nat.le_refl _))⟩
  have HA4 : (((((w3.setCell ⟨w.heap.size, 0, none⟩ (.int .i64 D.p)).setCell ⟨w.heap.size, 1, none⟩ (.int .i64 D.f)).setCell ⟨w.heap.size, 2, none⟩ (.slice A2 D.ws.length Ac2)).setCell ⟨w.heap.size, 3, none⟩ (.slice A3 D.ks.length Ac3)).setCell ⟨w.heap.size, 4, none⟩ (.slice A4 D.ac.length Ac4)).heap[w.heap.size + 1]? = some (.cells #[.int .i64 x0, .int .i64 x1, .int .i64 x2] 27 (0, 0)) := (blk_far (p := ⟨w.heap.size, 4, none⟩) (blk_far (p := ⟨w.heap.size, 3, none⟩) (blk_far (p := ⟨w.heap.size, 2, none⟩) (blk_far (p := ⟨w.heap.size, 1, none⟩) (blk_far (p := ⟨w.heap.size, 0, none⟩) HAR.out (by show w.heap.size + 1 ≠ w.heap.size; omega) (.int .i64 D.p)) (by show w.heap.size + 1 ≠ w.heap.size; omega) (.int .i64 D.f)) (by show w.heap.size + 1 ≠ w.heap.size; omega) (.slice A2 D.ws.length Ac2)) (by show w.heap.size + 1 ≠ w.heap.size; omega) (.slice A3 D.ks.length Ac3)) (by show w.heap.size + 1 ≠ w.heap.size; omega) (.slice A4 D.ac.length Ac4))
  clear HAR
  clear B3
  revert B4 HA4
  generalize (((((w3.setCell ⟨w.heap.size, 0, none⟩ (.int .i64 D.p)).setCell ⟨w.heap.size, 1, none⟩ (.int .i64 D.f)).setCell ⟨w.heap.size, 2, none⟩ (.slice A2 D.ws.length Ac2)).setCell ⟨w.heap.size, 3, none⟩ (.slice A3 D.ks.length Ac3)).setCell ⟨w.heap.size, 4, none⟩ (.slice A4 D.ac.length Ac4)) = w4
  intro B4 HA4
  have B4A := Aside0.mk B4
  clear B4
  have HAR := Aside0.mk HA4
  clear HA4
  have s0 := (blk_cell B4A.out.1 0).trans (show _ = some (.int .i64 D.p) from rfl)
  have s1 := (blk_cell B4A.out.1 1).trans (show _ = some (.int .i64 D.f) from rfl)
  have s2 := (blk_cell B4A.out.1 2).trans (show _ = some (.slice A2 D.ws.length Ac2) from rfl)
  have s3 := (blk_cell B4A.out.1 3).trans (show _ = some (.slice A3 D.ks.length Ac3) from rfl)
  have s4 := (blk_cell B4A.out.1 4).trans (show _ = some (.slice A4 D.ac.length Ac4) from rfl)
  go_upto_region 5 with (first | (go_at_call 10; refine (good_any (HXD.out.below B4A.out.2)).mono ?_; rintro e w5 ⟨G, X2, Xc2, X3, Xc3, X4, Xc4, hG, rfl, hx, hb⟩; have HX := Aside0.mk hx; have B5 := Aside0.mk (And.intro (blk_below B4A.out.1 hb) (below_step B4A.out.2 hb)); have HGG := Aside0.mk hG; have HARn := Aside0.mk (blk_below HAR.out hb); clear HAR; have HAR := HARn; clear HARn; clear hb hx hG))
  clear s0 s1 s2 s3 s4 B4A
  have H6 : GB w w5 (w5.alloc (.cells #[.int .i64 G.p, .int .i64 G.f, .slice X2 G.ws.length Xc2, .slice X3 G.ks.length Xc3, .slice X4 G.ac.length Xc4] 26)) #[.int .i64 G.p, .int .i64 G.f, .slice X2 G.ws.length Xc2, .slice X3 G.ks.length Xc3, .slice X4 G.ac.length Xc4] #[.int .i64 D.p, .int .i64 D.f, .slice A2 D.ws.length Ac2, .slice A3 D.ks.length Ac3, .slice A4 D.ac.length Ac4] := ⟨blk_new _ _, blk_alloc B5.out.1 _, below_alloc (Below.refl _ _) _, below_alloc B5.out.2 _⟩
  have HA6 : (w5.alloc (.cells #[.int .i64 G.p, .int .i64 G.f, .slice X2 G.ws.length Xc2, .slice X3 G.ks.length Xc3, .slice X4 G.ac.length Xc4] 26)).heap[w.heap.size + 1]? = some (.cells #[.int .i64 x0, .int .i64 x1, .int .i64 x2] 27 (0, 0)) := blk_alloc HAR.out _
  clear HAR
  have HG5 := Aside0.mk (HG.out.below B5.out.2)
  clear B5
  revert H6 HA6
  generalize (w5.alloc (.cells #[.int .i64 G.p, .int .i64 G.f, .slice X2 G.ws.length Xc2, .slice X3 G.ks.length Xc3, .slice X4 G.ac.length Xc4] 26)) = W6
  intro H6 HA6
  have H6A := Aside0.mk H6
  clear H6
  have HAR := Aside0.mk HA6
  clear HA6
  have k1 : G.ks.length ≤ 1000 := by have := HGG.out.k; omega
  have k2 : G.ac.length ≤ 1000 := by have := HGG.out.a; have := HGG.out.p; omega
  have k3 : G.ws.length ≤ 1000 := by have := HGG.out.w; omega
  obtain ⟨k, hk⟩ : ∃ k, wrap64 (Int.tmod (IntKind.u64.wrap x0) 6) = k := ⟨_, rfl⟩
  have C1 : Aside0 (∀ (W : World), Below w.heap.size w W → Calls Tryd.prog 11 #[.agg #[.int .i64 D.p, .int .i64 D.f, .slice A2 D.ws.length Ac2, .slice A3 D.ks.length Ac3, .slice A4 D.ac.length Ac4], .int .i64 x0, .int .i64 x1, .int .i64 x2] W fun e w' => e = .returned (.int .i64 (serveN D x0 x1 x2)) ∧ Below W.heap.size W w') := ⟨fun  W hb => serve_any (HXD.out.below hb) (HG.out.below hb) (by omega) (by omega) (by omega) x0 x1 x2⟩
  have D1 : Aside0 (∀ (W : World), Below w.heap.size w W → Calls Tryd.prog 12 #[.agg #[.int .i64 D.p, .int .i64 D.f, .slice A2 D.ws.length Ac2, .slice A3 D.ks.length Ac3, .slice A4 D.ac.length Ac4], .int .i64 x0, .int .i64 x1, .int .i64 x2] W fun e w' => e = .returned (.int .i64 (serveN D x0 x1 x2)) ∧ Below W.heap.size W w') := ⟨fun  W hb => rserve_any (HXD.out.below hb) (by omega) (by omega) (by omega) x0 x1 x2⟩
  have C2 : Aside0 (∀ (W : World), Below w5.heap.size w5 W → Calls Tryd.prog 11 #[.agg #[.int .i64 G.p, .int .i64 G.f, .slice X2 G.ws.length Xc2, .slice X3 G.ks.length Xc3, .slice X4 G.ac.length Xc4], .int .i64 k, .int .i64 x1, .int .i64 x2] W fun e w' => e = .returned (.int .i64 (serveN G k x1 x2)) ∧ Below W.heap.size W w') := ⟨fun  W hb => serve_any (HX.out.below hb) (HG5.out.below hb) k1 k2 k3 k x1 x2⟩
  have D2 : Aside0 (∀ (W : World), Below w5.heap.size w5 W → Calls Tryd.prog 12 #[.agg #[.int .i64 G.p, .int .i64 G.f, .slice X2 G.ws.length Xc2, .slice X3 G.ks.length Xc3, .slice X4 G.ac.length Xc4], .int .i64 k, .int .i64 x1, .int .i64 x2] W fun e w' => e = .returned (.int .i64 (serveN G k x1 x2)) ∧ Below W.heap.size W w') := ⟨fun  W hb => rserve_any (HX.out.below hb) k1 k2 k3 k x1 x2⟩
  have C3 : Aside0 (∀ (W : World), Below w.heap.size w W → Calls Tryd.prog 13 #[.agg #[.int .i64 D.p, .int .i64 D.f, .slice A2 D.ws.length Ac2, .slice A3 D.ks.length Ac3, .slice A4 D.ac.length Ac4]] W fun e w' => e = .returned (.int .i64 (cycN D)) ∧ Below W.heap.size W w') := ⟨fun  W hb => cycle_any (HXD.out.below hb) (HG.out.below hb) (by omega) (by omega) (by omega)⟩
  have D3 : Aside0 (∀ (W : World), Below w.heap.size w W → Calls Tryd.prog 14 #[.agg #[.int .i64 D.p, .int .i64 D.f, .slice A2 D.ws.length Ac2, .slice A3 D.ks.length Ac3, .slice A4 D.ac.length Ac4]] W fun e w' => e = .returned (.int .i64 (cycN D)) ∧ Below W.heap.size W w') := ⟨fun  W hb => rcycle_any (HXD.out.below hb) (by omega) (by omega) (by omega)⟩
  have C4 : Aside0 (∀ (W : World), Below w5.heap.size w5 W → Calls Tryd.prog 13 #[.agg #[.int .i64 G.p, .int .i64 G.f, .slice X2 G.ws.length Xc2, .slice X3 G.ks.length Xc3, .slice X4 G.ac.length Xc4]] W fun e w' => e = .returned (.int .i64 (cycN G)) ∧ Below W.heap.size W w') := ⟨fun  W hb => cycle_any (HX.out.below hb) (HG5.out.below hb) k1 k2 k3⟩
  have D4 : Aside0 (∀ (W : World), Below w5.heap.size w5 W → Calls Tryd.prog 14 #[.agg #[.int .i64 G.p, .int .i64 G.f, .slice X2 G.ws.length Xc2, .slice X3 G.ks.length Xc3, .slice X4 G.ac.length Xc4]] W fun e w' => e = .returned (.int .i64 (cycN G)) ∧ Below W.heap.size W w') := ⟨fun  W hb => rcycle_any (HX.out.below hb) k1 k2 k3⟩
  generalize serveN D x0 x1 x2 = v1 at C1 D1
  generalize serveN G k x1 x2 = v2 at C2 D2
  generalize cycN D = v3 at C3 D3
  generalize cycN G = v4 at C4 D4
  clear k1 k2 k3 HX HG5 HG HXD hD2 HGG
  have a0 := (blk_cell HAR.out 0).trans (show _ = some (.int .i64 x0) from rfl)
  have a1 := (blk_cell HAR.out 1).trans (show _ = some (.int .i64 x1) from rfl)
  have a2 := (blk_cell HAR.out 2).trans (show _ = some (.int .i64 x2) from rfl)
  have TA := Aside0.mk (fun (W : World) (hb : Below W6.heap.size W6 W) => And.intro (cell_b a0 hb) (And.intro (cell_b a1 hb) (cell_b a2 hb)))
  refine start_ (n := 9) (S := (fun w' => w'.cell? ⟨w.heap.size + 1, 0, none⟩ = some (.int .i64 x0) ∧ w'.cell? ⟨w.heap.size + 1, 1, none⟩ = some (.int .i64 x1) ∧ w'.cell? ⟨w.heap.size + 1, 2, none⟩ = some (.int .i64 x2))) (ds := []) #[false, false, false, false, false, false, false, false, false] (by kernel_rfl) rfl rfl (TA.out _ (below_drew (Below.refl _ _))) (fun hHeld => ?_)
  refine pure_ (i := 0) (N := some 16) (v := ?_) (a' := ?_) #[true, false, false, false, false, false, false, false, false] rfl rfl (by kernel_rfl) (fun _ _ _ h => h) (Or.inl ⟨by rfl, ?_⟩) ?_ ?_
  rotate_left
  · intro w'
    go_simp
    with_reducible rfl
  rotate_left
  · simp only [Act.put, List.setIfInBounds_toArray, List.set_cons_zero, List.set_cons_succ, i64_w, i32_w]
    rfl
  refine take_ (i := 1) (N := some 17) (v := ?_) (a' := ?_) #[true, true, false, false, false, false, false, false, false] rfl rfl (by kernel_rfl) (fun _ _ _ h => h) (Or.inl ⟨by rfl, ?_⟩) hHeld ?_ ?_
  rotate_left
  · intro w' hSw
    obtain ⟨a0, a1, a2⟩ := hSw
    go_simp
    with_reducible rfl
  rotate_left
  · simp only [Act.put, List.setIfInBounds_toArray, List.set_cons_zero, List.set_cons_succ, i64_w, i32_w]
    rfl
  refine pure_ (i := 2) (N := some 18) (v := ?_) (a' := ?_) #[true, true, true, false, false, false, false, false, false] rfl rfl (by kernel_rfl) (fun _ _ _ h => h) (Or.inl ⟨by rfl, ?_⟩) ?_ ?_
  rotate_left
  · intro w'
    go_simp
    with_reducible rfl
  rotate_left
  · simp only [Act.put, List.setIfInBounds_toArray, List.set_cons_zero, List.set_cons_succ, i64_w, i32_w]
    rfl
  refine take_ (i := 3) (N := some 19) (v := ?_) (a' := ?_) #[true, true, true, true, false, false, false, false, false] rfl rfl (by kernel_rfl) (fun _ _ _ h => h) (Or.inl ⟨by rfl, ?_⟩) hHeld ?_ ?_
  rotate_left
  · intro w' hSw
    obtain ⟨a0, a1, a2⟩ := hSw
    go_simp
    with_reducible rfl
  rotate_left
  · simp only [Act.put, List.setIfInBounds_toArray, List.set_cons_zero, List.set_cons_succ, i64_w, i32_w]
    rfl
  refine pure_ (i := 4) (N := some 20) (v := ?_) (a' := ?_) #[true, true, true, true, true, false, false, false, false] rfl rfl (by kernel_rfl) (fun _ _ _ h => h) (Or.inl ⟨by rfl, ?_⟩) ?_ ?_
  rotate_left
  · intro w'
    go_simp
    with_reducible rfl
  rotate_left
  · simp only [Act.put, List.setIfInBounds_toArray, List.set_cons_zero, List.set_cons_succ, i64_w, i32_w]
    rfl
  refine take_ (i := 5) (N := some 21) (v := ?_) (a' := ?_) #[true, true, true, true, true, true, false, false, false] rfl rfl (by kernel_rfl) (fun _ _ _ h => h) (Or.inl ⟨by rfl, ?_⟩) hHeld ?_ ?_
  rotate_left
  · intro w' hSw
    obtain ⟨a0, a1, a2⟩ := hSw
    go_simp
    with_reducible rfl
  rotate_left
  · simp only [Act.put, List.setIfInBounds_toArray, List.set_cons_zero, List.set_cons_succ, i64_w, i32_w]
    rfl
  refine pure_ (i := 6) (N := some 6) (v := ?_) (a' := ?_) #[true, true, true, true, true, true, true, false, false] rfl rfl (by kernel_rfl) (fun _ _ _ h => h) (Or.inl ⟨by rfl, ?_⟩) ?_ ?_
  rotate_left
  · intro w'
    go_simp
    with_reducible rfl
  rotate_left
  · simp only [Act.put, List.setIfInBounds_toArray, List.set_cons_zero, List.set_cons_succ, i64_w, i32_w]
    rfl
  refine pure_ (i := 7) (N := some 7) (v := ?_) (a' := ?_) #[true, true, true, true, true, true, true, true, false] rfl rfl (by kernel_rfl) (fun _ _ _ h => h) (Or.inl ⟨by rfl, ?_⟩) ?_ ?_
  rotate_left
  · intro w'
    go_simp
    with_reducible rfl
  rotate_left
  · simp only [Act.put, List.setIfInBounds_toArray, List.set_cons_zero, List.set_cons_succ, i64_w, i32_w]
    rfl
  refine pure_ (i := 8) (N := some 8) (v := ?_) (a' := ?_) #[true, true, true, true, true, true, true, true, true] rfl rfl (by kernel_rfl) (fun _ _ _ h => h) (Or.inl ⟨by rfl, ?_⟩) ?_ ?_
  rotate_left
  · intro w'
    go_simp
    with_reducible rfl
  rotate_left
  · simp only [Act.put, List.setIfInBounds_toArray, List.set_cons_zero, List.set_cons_succ, i64_w, i32_w]
    rfl
  refine done_ (by kernel_rfl) ?_
  have H6D : Aside0 (GB w w5 W6.drew #[.int .i64 G.p, .int .i64 G.f, .slice X2 G.ws.length Xc2, .slice X3 G.ks.length Xc3, .slice X4 G.ac.length Xc4] #[.int .i64 D.p, .int .i64 D.f, .slice A2 D.ws.length Ac2, .slice A3 D.ks.length Ac3, .slice A4 D.ac.length Ac4]) := ⟨H6A.out.far (below_drew (Below.refl _ _))⟩
  clear H6A HAR TA
  revert H6D
  generalize W6.drew = W7
  intro H6A
  have g0 := (blk_cell H6A.out.g 0).trans (show _ = some (.int .i64 G.p) from rfl)
  have g1 := (blk_cell H6A.out.g 1).trans (show _ = some (.int .i64 G.f) from rfl)
  have g2 := (blk_cell H6A.out.g 2).trans (show _ = some (.slice X2 G.ws.length Xc2) from rfl)
  have g3 := (blk_cell H6A.out.g 3).trans (show _ = some (.slice X3 G.ks.length Xc3) from rfl)
  have g4 := (blk_cell H6A.out.g 4).trans (show _ = some (.slice X4 G.ac.length Xc4) from rfl)
  have s0 := (blk_cell H6A.out.b 0).trans (show _ = some (.int .i64 D.p) from rfl)
  have s1 := (blk_cell H6A.out.b 1).trans (show _ = some (.int .i64 D.f) from rfl)
  have s2 := (blk_cell H6A.out.b 2).trans (show _ = some (.slice A2 D.ws.length Ac2) from rfl)
  have s3 := (blk_cell H6A.out.b 3).trans (show _ = some (.slice A3 D.ks.length Ac3) from rfl)
  have s4 := (blk_cell H6A.out.b 4).trans (show _ = some (.slice A4 D.ac.length Ac4) from rfl)
  go_upto_region 7 with (first | fail)
  rw [hk]
  clear hk
  have TS := Aside0.mk (fun (W : World) (hb : Below W7.heap.size W7 W) => And.intro (cell_b g0 hb) (And.intro (cell_b g1 hb) (And.intro (cell_b g2 hb) (And.intro (cell_b g3 hb) (And.intro (cell_b g4 hb) (And.intro (cell_b s0 hb) (And.intro (cell_b s1 hb) (And.intro (cell_b s2 hb) (And.intro (cell_b s3 hb) (cell_b s4 hb))))))))))
  have HB := Aside0.mk (below_drew (Below.refl W7.heap.size W7))
  clear g0 g1 g2 g3 g4 s0 s1 s2 s3 s4
  refine start_ (n := 39) (S := (fun w' => w'.cell? ⟨w5.heap.size, 0, none⟩ = some (.int .i64 G.p) ∧ w'.cell? ⟨w5.heap.size, 1, none⟩ = some (.int .i64 G.f) ∧ w'.cell? ⟨w5.heap.size, 2, none⟩ = some (.slice X2 G.ws.length Xc2) ∧ w'.cell? ⟨w5.heap.size, 3, none⟩ = some (.slice X3 G.ks.length Xc3) ∧ w'.cell? ⟨w5.heap.size, 4, none⟩ = some (.slice X4 G.ac.length Xc4) ∧ w'.cell? ⟨w.heap.size, 0, none⟩ = some (.int .i64 D.p) ∧ w'.cell? ⟨w.heap.size, 1, none⟩ = some (.int .i64 D.f) ∧ w'.cell? ⟨w.heap.size, 2, none⟩ = some (.slice A2 D.ws.length Ac2) ∧ w'.cell? ⟨w.heap.size, 3, none⟩ = some (.slice A3 D.ks.length Ac3) ∧ w'.cell? ⟨w.heap.size, 4, none⟩ = some (.slice A4 D.ac.length Ac4))) (ds := []) #[false, false, false, false, false, false, false, false, false, false, false, false, false, false, false, false, false, false, false, false, false, false, false, false, false, false, false, false, false, false, false, false, false, false, false, false, false, false, false] (by kernel_rfl) rfl rfl (TS.out _ (below_drew (Below.refl _ _))) (fun hHeld => ?_)
  refine take_ (i := 0) (N := some 26) (v := ?_) (a' := ?_) #[true, false, false, false, false, false, false, false, false, false, false, false, false, false, false, false, false, false, false, false, false, false, false, false, false, false, false, false, false, false, false, false, false, false, false, false, false, false, false] rfl rfl (by kernel_rfl) (fun _ _ _ h => h) (Or.inl ⟨by rfl, ?_⟩) hHeld ?_ ?_
  rotate_left
  · intro w' hSw
    obtain ⟨g0, g1, g2, g3, g4, s0, s1, s2, s3, s4⟩ := hSw
    go_simp
    with_reducible rfl
  rotate_left
  · simp only [Act.put, List.setIfInBounds_toArray, List.set_cons_zero, List.set_cons_succ, i64_w, i32_w]
    rfl
  refine pure_ (i := 1) (N := some 27) (v := ?_) (a' := ?_) #[true, true, false, false, false, false, false, false, false, false, false, false, false, false, false, false, false, false, false, false, false, false, false, false, false, false, false, false, false, false, false, false, false, false, false, false, false, false, false] rfl rfl (by kernel_rfl) (fun _ _ _ h => h) (Or.inl ⟨by rfl, ?_⟩) ?_ ?_
  rotate_left
  · intro w'
    go_simp
    with_reducible rfl
  rotate_left
  · simp only [Act.put, List.setIfInBounds_toArray, List.set_cons_zero, List.set_cons_succ, i64_w, i32_w]
    rfl
  refine pure_ (i := 2) (N := some 28) (v := ?_) (a' := ?_) #[true, true, true, false, false, false, false, false, false, false, false, false, false, false, false, false, false, false, false, false, false, false, false, false, false, false, false, false, false, false, false, false, false, false, false, false, false, false, false] rfl rfl (by kernel_rfl) (fun _ _ _ h => h) (Or.inl ⟨by rfl, ?_⟩) ?_ ?_
  rotate_left
  · intro w'
    go_simp
    with_reducible rfl
  rotate_left
  · simp only [Act.put, List.setIfInBounds_toArray, List.set_cons_zero, List.set_cons_succ, i64_w, i32_w]
    rfl
  refine pure_ (i := 3) (N := some 29) (v := ?_) (a' := ?_) #[true, true, true, true, false, false, false, false, false, false, false, false, false, false, false, false, false, false, false, false, false, false, false, false, false, false, false, false, false, false, false, false, false, false, false, false, false, false, false] rfl rfl (by kernel_rfl) (fun _ _ _ h => h) (Or.inl ⟨by rfl, ?_⟩) ?_ ?_
  rotate_left
  · intro w'
    go_simp
    with_reducible rfl
  rotate_left
  · simp only [Act.put, List.setIfInBounds_toArray, List.set_cons_zero, List.set_cons_succ, i64_w, i32_w]
    rfl
  refine take_ (i := 5) (N := some 31) (v := ?_) (a' := ?_) #[true, true, true, true, false, true, false, false, false, false, false, false, false, false, false, false, false, false, false, false, false, false, false, false, false, false, false, false, false, false, false, false, false, false, false, false, false, false, false] rfl rfl (by kernel_rfl) (fun _ _ _ h => h) (Or.inl ⟨by rfl, ?_⟩) hHeld ?_ ?_
  rotate_left
  · intro w' hSw
    obtain ⟨g0, g1, g2, g3, g4, s0, s1, s2, s3, s4⟩ := hSw
    go_simp
    with_reducible rfl
  rotate_left
  · simp only [Act.put, List.setIfInBounds_toArray, List.set_cons_zero, List.set_cons_succ, i64_w, i32_w]
    rfl
  refine pure_ (i := 6) (N := some 32) (v := ?_) (a' := ?_) #[true, true, true, true, false, true, true, false, false, false, false, false, false, false, false, false, false, false, false, false, false, false, false, false, false, false, false, false, false, false, false, false, false, false, false, false, false, false, false] rfl rfl (by kernel_rfl) (fun _ _ _ h => h) (Or.inl ⟨by rfl, ?_⟩) ?_ ?_
  rotate_left
  · intro w'
    go_simp
    with_reducible rfl
  rotate_left
  · simp only [Act.put, List.setIfInBounds_toArray, List.set_cons_zero, List.set_cons_succ, i64_w, i32_w]
    rfl
  refine pure_ (i := 7) (N := some 33) (v := ?_) (a' := ?_) #[true, true, true, true, false, true, true, true, false, false, false, false, false, false, false, false, false, false, false, false, false, false, false, false, false, false, false, false, false, false, false, false, false, false, false, false, false, false, false] rfl rfl (by kernel_rfl) (fun _ _ _ h => h) (Or.inl ⟨by rfl, ?_⟩) ?_ ?_
  rotate_left
  · intro w'
    go_simp
    with_reducible rfl
  rotate_left
  · simp only [Act.put, List.setIfInBounds_toArray, List.set_cons_zero, List.set_cons_succ, i64_w, i32_w]
    rfl
  refine pure_ (i := 8) (N := some 34) (v := ?_) (a' := ?_) #[true, true, true, true, false, true, true, true, true, false, false, false, false, false, false, false, false, false, false, false, false, false, false, false, false, false, false, false, false, false, false, false, false, false, false, false, false, false, false] rfl rfl (by kernel_rfl) (fun _ _ _ h => h) (Or.inl ⟨by rfl, ?_⟩) ?_ ?_
  rotate_left
  · intro w'
    go_simp
    with_reducible rfl
  rotate_left
  · simp only [Act.put, List.setIfInBounds_toArray, List.set_cons_zero, List.set_cons_succ, i64_w, i32_w]
    rfl
  clear hHeld
  refine one_ (i := 4) (N := some 30) #[true, true, true, true, true, true, true, true, true, false, false, false, false, false, false, false, false, false, false, false, false, false, false, false, false, false, false, false, false, false, false, false, false, false, false, false, false, false, false] rfl rfl (by kernel_rfl) (by decide) (fun K hK => ?_)
  refine goes_ Tryd.func11 (by kernel_rfl) rfl #[.agg #[.int .i64 D.p, .int .i64 D.f, .slice A2 D.ws.length Ac2, .slice A3 D.ks.length Ac3, .slice A4 D.ac.length Ac4], .int .i64 x0, .int .i64 x1, .int .i64 x2] (by rfl) rfl rfl (by (try simp only [List.map_toArray, List.map_cons, List.map_nil]); first | done | rfl | (simp only [List.length_drop, List.length_take]; rfl)) ?_
  (with_reducible refine (C1.out _ (below_step H6A.out.h HB.out)).mono ?_)
  rintro e w11 ⟨rfl, hb⟩
  refine ⟨_, rfl, ?_⟩
  have HBn := Aside0.mk (below_step HB.out hb)
  clear HB
  have HB := HBn
  clear HBn
  clear hb
  refine hK.out _ _ (TS.out _ HB.out) (fun hHeld => ?_)
  clear hK K
  refine norm_ (a' := ?_) ?_ ?_
  rotate_left
  · show Act.put _ (some 30) _ = _
    simp only [Act.put, List.setIfInBounds_toArray, List.set_cons_zero, List.set_cons_succ, i64_w, i32_w]
    rfl
  clear hHeld
  refine one_ (i := 9) (N := some 35) #[true, true, true, true, true, true, true, true, true, true, false, false, false, false, false, false, false, false, false, false, false, false, false, false, false, false, false, false, false, false, false, false, false, false, false, false, false, false, false] rfl rfl (by kernel_rfl) (by decide) (fun K hK => ?_)
  refine goes_ Tryd.func12 (by kernel_rfl) rfl #[.agg #[.int .i64 D.p, .int .i64 D.f, .slice A2 D.ws.length Ac2, .slice A3 D.ks.length Ac3, .slice A4 D.ac.length Ac4], .int .i64 x0, .int .i64 x1, .int .i64 x2] (by rfl) rfl rfl (by (try simp only [List.map_toArray, List.map_cons, List.map_nil]); first | done | rfl | (simp only [List.length_drop, List.length_take]; rfl)) ?_
  (with_reducible refine (D1.out _ (below_step H6A.out.h HB.out)).mono ?_)
  rintro e w11 ⟨rfl, hb⟩
  refine ⟨_, rfl, ?_⟩
  have HBn := Aside0.mk (below_step HB.out hb)
  clear HB
  have HB := HBn
  clear HBn
  clear hb
  refine hK.out _ _ (TS.out _ HB.out) (fun hHeld => ?_)
  clear hK K
  refine norm_ (a' := ?_) ?_ ?_
  rotate_left
  · show Act.put _ (some 35) _ = _
    simp only [Act.put, List.setIfInBounds_toArray, List.set_cons_zero, List.set_cons_succ, i64_w, i32_w]
    rfl
  refine pure_ (i := 10) (N := some 36) (v := ?_) (a' := ?_) #[true, true, true, true, true, true, true, true, true, true, true, false, false, false, false, false, false, false, false, false, false, false, false, false, false, false, false, false, false, false, false, false, false, false, false, false, false, false, false] rfl rfl (by kernel_rfl) (fun _ _ _ h => h) (Or.inl ⟨by rfl, ?_⟩) ?_ ?_
  rotate_left
  · intro w'
    go_simp
    with_reducible rfl
  rotate_left
  · simp only [Act.put, List.setIfInBounds_toArray, List.set_cons_zero, List.set_cons_succ, i64_w, i32_w]
    rfl
  refine pure_ (i := 11) (N := some 37) (v := ?_) (a' := ?_) #[true, true, true, true, true, true, true, true, true, true, true, true, false, false, false, false, false, false, false, false, false, false, false, false, false, false, false, false, false, false, false, false, false, false, false, false, false, false, false] rfl rfl (by kernel_rfl) (fun _ _ _ h => h) (Or.inl ⟨by rfl, ?_⟩) ?_ ?_
  rotate_left
  · intro w'
    go_simp
    with_reducible rfl
  rotate_left
  · simp only [Act.put, List.setIfInBounds_toArray, List.set_cons_zero, List.set_cons_succ, i64_w, i32_w]
    rfl
  refine take_ (i := 12) (N := some 38) (v := ?_) (a' := ?_) #[true, true, true, true, true, true, true, true, true, true, true, true, true, false, false, false, false, false, false, false, false, false, false, false, false, false, false, false, false, false, false, false, false, false, false, false, false, false, false] rfl rfl (by kernel_rfl) (fun _ _ _ h => h) (Or.inl ⟨by rfl, ?_⟩) hHeld ?_ ?_
  rotate_left
  · intro w' hSw
    obtain ⟨g0, g1, g2, g3, g4, s0, s1, s2, s3, s4⟩ := hSw
    go_simp
    with_reducible rfl
  rotate_left
  · simp only [Act.put, List.setIfInBounds_toArray, List.set_cons_zero, List.set_cons_succ, i64_w, i32_w]
    rfl
  refine pure_ (i := 13) (N := some 39) (v := ?_) (a' := ?_) #[true, true, true, true, true, true, true, true, true, true, true, true, true, true, false, false, false, false, false, false, false, false, false, false, false, false, false, false, false, false, false, false, false, false, false, false, false, false, false] rfl rfl (by kernel_rfl) (fun _ _ _ h => h) (Or.inl ⟨by rfl, ?_⟩) ?_ ?_
  rotate_left
  · intro w'
    go_simp
    with_reducible rfl
  rotate_left
  · simp only [Act.put, List.setIfInBounds_toArray, List.set_cons_zero, List.set_cons_succ, i64_w, i32_w]
    rfl
  refine pure_ (i := 14) (N := some 40) (v := ?_) (a' := ?_) #[true, true, true, true, true, true, true, true, true, true, true, true, true, true, true, false, false, false, false, false, false, false, false, false, false, false, false, false, false, false, false, false, false, false, false, false, false, false, false] rfl rfl (by kernel_rfl) (fun _ _ _ h => h) (Or.inl ⟨by rfl, ?_⟩) ?_ ?_
  rotate_left
  · intro w'
    go_simp
    with_reducible rfl
  rotate_left
  · simp only [Act.put, List.setIfInBounds_toArray, List.set_cons_zero, List.set_cons_succ, i64_w, i32_w]
    rfl
  refine pure_ (i := 15) (N := some 41) (v := ?_) (a' := ?_) #[true, true, true, true, true, true, true, true, true, true, true, true, true, true, true, true, false, false, false, false, false, false, false, false, false, false, false, false, false, false, false, false, false, false, false, false, false, false, false] rfl rfl (by kernel_rfl) (fun _ _ _ h => h) (Or.inl ⟨by rfl, ?_⟩) ?_ ?_
  rotate_left
  · intro w'
    go_simp
    with_reducible rfl
  rotate_left
  · simp only [Act.put, List.setIfInBounds_toArray, List.set_cons_zero, List.set_cons_succ, i64_w, i32_w]
    rfl
  refine take_ (i := 17) (N := some 43) (v := ?_) (a' := ?_) #[true, true, true, true, true, true, true, true, true, true, true, true, true, true, true, true, false, true, false, false, false, false, false, false, false, false, false, false, false, false, false, false, false, false, false, false, false, false, false] rfl rfl (by kernel_rfl) (fun _ _ _ h => h) (Or.inl ⟨by rfl, ?_⟩) hHeld ?_ ?_
  rotate_left
  · intro w' hSw
    obtain ⟨g0, g1, g2, g3, g4, s0, s1, s2, s3, s4⟩ := hSw
    go_simp
    with_reducible rfl
  rotate_left
  · simp only [Act.put, List.setIfInBounds_toArray, List.set_cons_zero, List.set_cons_succ, i64_w, i32_w]
    rfl
  refine pure_ (i := 18) (N := some 44) (v := ?_) (a' := ?_) #[true, true, true, true, true, true, true, true, true, true, true, true, true, true, true, true, false, true, true, false, false, false, false, false, false, false, false, false, false, false, false, false, false, false, false, false, false, false, false] rfl rfl (by kernel_rfl) (fun _ _ _ h => h) (Or.inl ⟨by rfl, ?_⟩) ?_ ?_
  rotate_left
  · intro w'
    go_simp
    with_reducible rfl
  rotate_left
  · simp only [Act.put, List.setIfInBounds_toArray, List.set_cons_zero, List.set_cons_succ, i64_w, i32_w]
    rfl
  refine pure_ (i := 19) (N := some 45) (v := ?_) (a' := ?_) #[true, true, true, true, true, true, true, true, true, true, true, true, true, true, true, true, false, true, true, true, false, false, false, false, false, false, false, false, false, false, false, false, false, false, false, false, false, false, false] rfl rfl (by kernel_rfl) (fun _ _ _ h => h) (Or.inl ⟨by rfl, ?_⟩) ?_ ?_
  rotate_left
  · intro w'
    go_simp
    with_reducible rfl
  rotate_left
  · simp only [Act.put, List.setIfInBounds_toArray, List.set_cons_zero, List.set_cons_succ, i64_w, i32_w]
    rfl
  refine pure_ (i := 20) (N := some 46) (v := ?_) (a' := ?_) #[true, true, true, true, true, true, true, true, true, true, true, true, true, true, true, true, false, true, true, true, true, false, false, false, false, false, false, false, false, false, false, false, false, false, false, false, false, false, false] rfl rfl (by kernel_rfl) (fun _ _ _ h => h) (Or.inl ⟨by rfl, ?_⟩) ?_ ?_
  rotate_left
  · intro w'
    go_simp
    with_reducible rfl
  rotate_left
  · simp only [Act.put, List.setIfInBounds_toArray, List.set_cons_zero, List.set_cons_succ, i64_w, i32_w]
    rfl
  clear hHeld
  refine one_ (i := 16) (N := some 42) #[true, true, true, true, true, true, true, true, true, true, true, true, true, true, true, true, true, true, true, true, true, false, false, false, false, false, false, false, false, false, false, false, false, false, false, false, false, false, false] rfl rfl (by kernel_rfl) (by decide) (fun K hK => ?_)
  refine goes_ Tryd.func11 (by kernel_rfl) rfl #[.agg #[.int .i64 G.p, .int .i64 G.f, .slice X2 G.ws.length Xc2, .slice X3 G.ks.length Xc3, .slice X4 G.ac.length Xc4], .int .i64 k, .int .i64 x1, .int .i64 x2] (by rfl) rfl rfl (by (try simp only [List.map_toArray, List.map_cons, List.map_nil]); first | done | rfl | (simp only [List.length_drop, List.length_take]; rfl)) ?_
  (with_reducible refine (C2.out _ (below_step H6A.out.h5 HB.out)).mono ?_)
  rintro e w11 ⟨rfl, hb⟩
  refine ⟨_, rfl, ?_⟩
  have HBn := Aside0.mk (below_step HB.out hb)
  clear HB
  have HB := HBn
  clear HBn
  clear hb
  refine hK.out _ _ (TS.out _ HB.out) (fun hHeld => ?_)
  clear hK K
  refine norm_ (a' := ?_) ?_ ?_
  rotate_left
  · show Act.put _ (some 42) _ = _
    simp only [Act.put, List.setIfInBounds_toArray, List.set_cons_zero, List.set_cons_succ, i64_w, i32_w]
    rfl
  clear hHeld
  refine one_ (i := 21) (N := some 47) #[true, true, true, true, true, true, true, true, true, true, true, true, true, true, true, true, true, true, true, true, true, true, false, false, false, false, false, false, false, false, false, false, false, false, false, false, false, false, false] rfl rfl (by kernel_rfl) (by decide) (fun K hK => ?_)
  refine goes_ Tryd.func12 (by kernel_rfl) rfl #[.agg #[.int .i64 G.p, .int .i64 G.f, .slice X2 G.ws.length Xc2, .slice X3 G.ks.length Xc3, .slice X4 G.ac.length Xc4], .int .i64 k, .int .i64 x1, .int .i64 x2] (by rfl) rfl rfl (by (try simp only [List.map_toArray, List.map_cons, List.map_nil]); first | done | rfl | (simp only [List.length_drop, List.length_take]; rfl)) ?_
  (with_reducible refine (D2.out _ (below_step H6A.out.h5 HB.out)).mono ?_)
  rintro e w11 ⟨rfl, hb⟩
  refine ⟨_, rfl, ?_⟩
  have HBn := Aside0.mk (below_step HB.out hb)
  clear HB
  have HB := HBn
  clear HBn
  clear hb
  refine hK.out _ _ (TS.out _ HB.out) (fun hHeld => ?_)
  clear hK K
  refine norm_ (a' := ?_) ?_ ?_
  rotate_left
  · show Act.put _ (some 47) _ = _
    simp only [Act.put, List.setIfInBounds_toArray, List.set_cons_zero, List.set_cons_succ, i64_w, i32_w]
    rfl
  refine pure_ (i := 22) (N := some 48) (v := ?_) (a' := ?_) #[true, true, true, true, true, true, true, true, true, true, true, true, true, true, true, true, true, true, true, true, true, true, true, false, false, false, false, false, false, false, false, false, false, false, false, false, false, false, false] rfl rfl (by kernel_rfl) (fun _ _ _ h => h) (Or.inl ⟨by rfl, ?_⟩) ?_ ?_
  rotate_left
  · intro w'
    go_simp
    with_reducible rfl
  rotate_left
  · simp only [Act.put, List.setIfInBounds_toArray, List.set_cons_zero, List.set_cons_succ, i64_w, i32_w]
    rfl
  refine pure_ (i := 23) (N := some 49) (v := ?_) (a' := ?_) #[true, true, true, true, true, true, true, true, true, true, true, true, true, true, true, true, true, true, true, true, true, true, true, true, false, false, false, false, false, false, false, false, false, false, false, false, false, false, false] rfl rfl (by kernel_rfl) (fun _ _ _ h => h) (Or.inl ⟨by rfl, ?_⟩) ?_ ?_
  rotate_left
  · intro w'
    go_simp
    with_reducible rfl
  rotate_left
  · simp only [Act.put, List.setIfInBounds_toArray, List.set_cons_zero, List.set_cons_succ, i64_w, i32_w]
    rfl
  refine pure_ (i := 24) (N := some 50) (v := ?_) (a' := ?_) #[true, true, true, true, true, true, true, true, true, true, true, true, true, true, true, true, true, true, true, true, true, true, true, true, true, false, false, false, false, false, false, false, false, false, false, false, false, false, false] rfl rfl (by kernel_rfl) (fun _ _ _ h => h) (Or.inl ⟨by rfl, ?_⟩) ?_ ?_
  rotate_left
  · intro w'
    go_simp
    with_reducible rfl
  rotate_left
  · simp only [Act.put, List.setIfInBounds_toArray, List.set_cons_zero, List.set_cons_succ, i64_w, i32_w]
    rfl
  refine take_ (i := 25) (N := some 51) (v := ?_) (a' := ?_) #[true, true, true, true, true, true, true, true, true, true, true, true, true, true, true, true, true, true, true, true, true, true, true, true, true, true, false, false, false, false, false, false, false, false, false, false, false, false, false] rfl rfl (by kernel_rfl) (fun _ _ _ h => h) (Or.inl ⟨by rfl, ?_⟩) hHeld ?_ ?_
  rotate_left
  · intro w' hSw
    obtain ⟨g0, g1, g2, g3, g4, s0, s1, s2, s3, s4⟩ := hSw
    go_simp
    with_reducible rfl
  rotate_left
  · simp only [Act.put, List.setIfInBounds_toArray, List.set_cons_zero, List.set_cons_succ, i64_w, i32_w]
    rfl
  refine take_ (i := 27) (N := some 53) (v := ?_) (a' := ?_) #[true, true, true, true, true, true, true, true, true, true, true, true, true, true, true, true, true, true, true, true, true, true, true, true, true, true, false, true, false, false, false, false, false, false, false, false, false, false, false] rfl rfl (by kernel_rfl) (fun _ _ _ h => h) (Or.inl ⟨by rfl, ?_⟩) hHeld ?_ ?_
  rotate_left
  · intro w' hSw
    obtain ⟨g0, g1, g2, g3, g4, s0, s1, s2, s3, s4⟩ := hSw
    go_simp
    with_reducible rfl
  rotate_left
  · simp only [Act.put, List.setIfInBounds_toArray, List.set_cons_zero, List.set_cons_succ, i64_w, i32_w]
    rfl
  clear hHeld
  refine one_ (i := 26) (N := some 52) #[true, true, true, true, true, true, true, true, true, true, true, true, true, true, true, true, true, true, true, true, true, true, true, true, true, true, true, true, false, false, false, false, false, false, false, false, false, false, false] rfl rfl (by kernel_rfl) (by decide) (fun K hK => ?_)
  refine goes_ Tryd.func13 (by kernel_rfl) rfl #[.agg #[.int .i64 D.p, .int .i64 D.f, .slice A2 D.ws.length Ac2, .slice A3 D.ks.length Ac3, .slice A4 D.ac.length Ac4]] (by rfl) rfl rfl (by (try simp only [List.map_toArray, List.map_cons, List.map_nil]); first | done | rfl | (simp only [List.length_drop, List.length_take]; rfl)) ?_
  (with_reducible refine (C3.out _ (below_step H6A.out.h HB.out)).mono ?_)
  rintro e w11 ⟨rfl, hb⟩
  refine ⟨_, rfl, ?_⟩
  have HBn := Aside0.mk (below_step HB.out hb)
  clear HB
  have HB := HBn
  clear HBn
  clear hb
  refine hK.out _ _ (TS.out _ HB.out) (fun hHeld => ?_)
  clear hK K
  refine norm_ (a' := ?_) ?_ ?_
  rotate_left
  · show Act.put _ (some 52) _ = _
    simp only [Act.put, List.setIfInBounds_toArray, List.set_cons_zero, List.set_cons_succ, i64_w, i32_w]
    rfl
  clear hHeld
  refine one_ (i := 28) (N := some 54) #[true, true, true, true, true, true, true, true, true, true, true, true, true, true, true, true, true, true, true, true, true, true, true, true, true, true, true, true, true, false, false, false, false, false, false, false, false, false, false] rfl rfl (by kernel_rfl) (by decide) (fun K hK => ?_)
  refine goes_ Tryd.func14 (by kernel_rfl) rfl #[.agg #[.int .i64 D.p, .int .i64 D.f, .slice A2 D.ws.length Ac2, .slice A3 D.ks.length Ac3, .slice A4 D.ac.length Ac4]] (by rfl) rfl rfl (by (try simp only [List.map_toArray, List.map_cons, List.map_nil]); first | done | rfl | (simp only [List.length_drop, List.length_take]; rfl)) ?_
  (with_reducible refine (D3.out _ (below_step H6A.out.h HB.out)).mono ?_)
  rintro e w11 ⟨rfl, hb⟩
  refine ⟨_, rfl, ?_⟩
  have HBn := Aside0.mk (below_step HB.out hb)
  clear HB
  have HB := HBn
  clear HBn
  clear hb
  refine hK.out _ _ (TS.out _ HB.out) (fun hHeld => ?_)
  clear hK K
  refine norm_ (a' := ?_) ?_ ?_
  rotate_left
  · show Act.put _ (some 54) _ = _
    simp only [Act.put, List.setIfInBounds_toArray, List.set_cons_zero, List.set_cons_succ, i64_w, i32_w]
    rfl
  refine pure_ (i := 29) (N := some 55) (v := ?_) (a' := ?_) #[true, true, true, true, true, true, true, true, true, true, true, true, true, true, true, true, true, true, true, true, true, true, true, true, true, true, true, true, true, true, false, false, false, false, false, false, false, false, false] rfl rfl (by kernel_rfl) (fun _ _ _ h => h) (Or.inl ⟨by rfl, ?_⟩) ?_ ?_
  rotate_left
  · intro w'
    go_simp
    with_reducible rfl
  rotate_left
  · simp only [Act.put, List.setIfInBounds_toArray, List.set_cons_zero, List.set_cons_succ, i64_w, i32_w]
    rfl
  refine pure_ (i := 30) (N := some 56) (v := ?_) (a' := ?_) #[true, true, true, true, true, true, true, true, true, true, true, true, true, true, true, true, true, true, true, true, true, true, true, true, true, true, true, true, true, true, true, false, false, false, false, false, false, false, false] rfl rfl (by kernel_rfl) (fun _ _ _ h => h) (Or.inl ⟨by rfl, ?_⟩) ?_ ?_
  rotate_left
  · intro w'
    go_simp
    with_reducible rfl
  rotate_left
  · simp only [Act.put, List.setIfInBounds_toArray, List.set_cons_zero, List.set_cons_succ, i64_w, i32_w]
    rfl
  refine pure_ (i := 31) (N := some 57) (v := ?_) (a' := ?_) #[true, true, true, true, true, true, true, true, true, true, true, true, true, true, true, true, true, true, true, true, true, true, true, true, true, true, true, true, true, true, true, true, false, false, false, false, false, false, false] rfl rfl (by kernel_rfl) (fun _ _ _ h => h) (Or.inl ⟨by rfl, ?_⟩) ?_ ?_
  rotate_left
  · intro w'
    go_simp
    with_reducible rfl
  rotate_left
  · simp only [Act.put, List.setIfInBounds_toArray, List.set_cons_zero, List.set_cons_succ, i64_w, i32_w]
    rfl
  refine take_ (i := 32) (N := some 58) (v := ?_) (a' := ?_) #[true, true, true, true, true, true, true, true, true, true, true, true, true, true, true, true, true, true, true, true, true, true, true, true, true, true, true, true, true, true, true, true, true, false, false, false, false, false, false] rfl rfl (by kernel_rfl) (fun _ _ _ h => h) (Or.inl ⟨by rfl, ?_⟩) hHeld ?_ ?_
  rotate_left
  · intro w' hSw
    obtain ⟨g0, g1, g2, g3, g4, s0, s1, s2, s3, s4⟩ := hSw
    go_simp
    with_reducible rfl
  rotate_left
  · simp only [Act.put, List.setIfInBounds_toArray, List.set_cons_zero, List.set_cons_succ, i64_w, i32_w]
    rfl
  refine take_ (i := 34) (N := some 60) (v := ?_) (a' := ?_) #[true, true, true, true, true, true, true, true, true, true, true, true, true, true, true, true, true, true, true, true, true, true, true, true, true, true, true, true, true, true, true, true, true, false, true, false, false, false, false] rfl rfl (by kernel_rfl) (fun _ _ _ h => h) (Or.inl ⟨by rfl, ?_⟩) hHeld ?_ ?_
  rotate_left
  · intro w' hSw
    obtain ⟨g0, g1, g2, g3, g4, s0, s1, s2, s3, s4⟩ := hSw
    go_simp
    with_reducible rfl
  rotate_left
  · simp only [Act.put, List.setIfInBounds_toArray, List.set_cons_zero, List.set_cons_succ, i64_w, i32_w]
    rfl
  clear hHeld
  refine one_ (i := 33) (N := some 59) #[true, true, true, true, true, true, true, true, true, true, true, true, true, true, true, true, true, true, true, true, true, true, true, true, true, true, true, true, true, true, true, true, true, true, true, false, false, false, false] rfl rfl (by kernel_rfl) (by decide) (fun K hK => ?_)
  refine goes_ Tryd.func13 (by kernel_rfl) rfl #[.agg #[.int .i64 G.p, .int .i64 G.f, .slice X2 G.ws.length Xc2, .slice X3 G.ks.length Xc3, .slice X4 G.ac.length Xc4]] (by rfl) rfl rfl (by (try simp only [List.map_toArray, List.map_cons, List.map_nil]); first | done | rfl | (simp only [List.length_drop, List.length_take]; rfl)) ?_
  (with_reducible refine (C4.out _ (below_step H6A.out.h5 HB.out)).mono ?_)
  rintro e w11 ⟨rfl, hb⟩
  refine ⟨_, rfl, ?_⟩
  have HBn := Aside0.mk (below_step HB.out hb)
  clear HB
  have HB := HBn
  clear HBn
  clear hb
  refine hK.out _ _ (TS.out _ HB.out) (fun hHeld => ?_)
  clear hK K
  refine norm_ (a' := ?_) ?_ ?_
  rotate_left
  · show Act.put _ (some 59) _ = _
    simp only [Act.put, List.setIfInBounds_toArray, List.set_cons_zero, List.set_cons_succ, i64_w, i32_w]
    rfl
  clear hHeld
  refine one_ (i := 35) (N := some 61) #[true, true, true, true, true, true, true, true, true, true, true, true, true, true, true, true, true, true, true, true, true, true, true, true, true, true, true, true, true, true, true, true, true, true, true, true, false, false, false] rfl rfl (by kernel_rfl) (by decide) (fun K hK => ?_)
  refine goes_ Tryd.func14 (by kernel_rfl) rfl #[.agg #[.int .i64 G.p, .int .i64 G.f, .slice X2 G.ws.length Xc2, .slice X3 G.ks.length Xc3, .slice X4 G.ac.length Xc4]] (by rfl) rfl rfl (by (try simp only [List.map_toArray, List.map_cons, List.map_nil]); first | done | rfl | (simp only [List.length_drop, List.length_take]; rfl)) ?_
  (with_reducible refine (D4.out _ (below_step H6A.out.h5 HB.out)).mono ?_)
  rintro e w11 ⟨rfl, hb⟩
  refine ⟨_, rfl, ?_⟩
  have HBn := Aside0.mk (below_step HB.out hb)
  clear HB
  have HB := HBn
  clear HBn
  clear hb
  refine hK.out _ _ (TS.out _ HB.out) (fun hHeld => ?_)
  clear hK K
  refine norm_ (a' := ?_) ?_ ?_
  rotate_left
  · show Act.put _ (some 61) _ = _
    simp only [Act.put, List.setIfInBounds_toArray, List.set_cons_zero, List.set_cons_succ, i64_w, i32_w]
    rfl
  refine pure_ (i := 36) (N := some 62) (v := ?_) (a' := ?_) #[true, true, true, true, true, true, true, true, true, true, true, true, true, true, true, true, true, true, true, true, true, true, true, true, true, true, true, true, true, true, true, true, true, true, true, true, true, false, false] rfl rfl (by kernel_rfl) (fun _ _ _ h => h) (Or.inl ⟨by rfl, ?_⟩) ?_ ?_
  rotate_left
  · intro w'
    go_simp
    with_reducible rfl
  rotate_left
  · simp only [Act.put, List.setIfInBounds_toArray, List.set_cons_zero, List.set_cons_succ, i64_w, i32_w]
    rfl
  refine pure_ (i := 37) (N := some 63) (v := ?_) (a' := ?_) #[true, true, true, true, true, true, true, true, true, true, true, true, true, true, true, true, true, true, true, true, true, true, true, true, true, true, true, true, true, true, true, true, true, true, true, true, true, true, false] rfl rfl (by kernel_rfl) (fun _ _ _ h => h) (Or.inl ⟨by rfl, ?_⟩) ?_ ?_
  rotate_left
  · intro w'
    go_simp
    with_reducible rfl
  rotate_left
  · simp only [Act.put, List.setIfInBounds_toArray, List.set_cons_zero, List.set_cons_succ, i64_w, i32_w]
    rfl
  refine pure_ (i := 38) (N := some 4) (v := ?_) (a' := ?_) #[true, true, true, true, true, true, true, true, true, true, true, true, true, true, true, true, true, true, true, true, true, true, true, true, true, true, true, true, true, true, true, true, true, true, true, true, true, true, true] rfl rfl (by kernel_rfl) (fun _ _ _ h => h) (Or.inl ⟨by rfl, ?_⟩) ?_ ?_
  rotate_left
  · intro w'
    go_simp
    with_reducible rfl
  rotate_left
  · simp only [Act.put, List.setIfInBounds_toArray, List.set_cons_zero, List.set_cons_succ, i64_w, i32_w]
    rfl
  refine done_ (by kernel_rfl) ?_
  go_wp2
  go_ret
  exact ⟨rfl, below_step H6A.out.h HB.out⟩
end Go.Proofs.YtcebmgndniejcaaDoor.Wn
