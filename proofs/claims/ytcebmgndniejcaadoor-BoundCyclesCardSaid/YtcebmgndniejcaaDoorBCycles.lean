/- BoundCycles: the walk. -/
import Derived.Test.YtcebmgndniejcaaDoorBm
import Derived.Test.YtcebmgndniejcaaDoorBp
import Derived.Test.YtcebmgndniejcaaDoorWrM
import Derived.Test.YtcebmgndniejcaaDoorGw
import Derived.Test.YtcebmgndniejcaaDoorFew
import Derived.Deep.RegionHeld3
set_option linter.unusedVariables false
set_option linter.unusedSimpArgs false
namespace Go.Proofs.YtcebmgndniejcaaDoor.Wn
open Go Go.RowKit Go.Shelf Go.Proofs.YtcebmgndniejcaaDoorW.PrintWords Go.Proofs.YtcebmgndniejcaaDoorW.PrintLast Go.Proofs.YtcebmgndniejcaaDoorW.PrintMore Go.Proofs.YtcebmgndniejcaaDoor.Cz Go.Proofs.YtcebmgndniejcaaDoor.PBoundWaits Go.Proofs.YtcebmgndniejcaaDoor.Cf Go.Proofs.YtcebmgndniejcaaDoor.Sat
attribute [local go_sem] max2_int min2_int max_two min_two max_three min_three max_four min_four Tryd.underlying26 Tryd.underlying41 Tryd.underlying43
set_option maxHeartbeats 16000000 in
set_option maxRecDepth 100000 in
theorem boundCycles_any (now : Int) (channel : Int) {C : Cfg} {A2 A3 A4 : Option Addr} {Ac2 Ac3 Ac4 : Nat} {w : World} (h : CX w C A2 Ac2 A3 Ac3 A4 Ac4)
    (l2 : C.ws.length ≤ maxLen) (l3 : C.ks.length ≤ maxLen) (l4 : C.ac.length ≤ maxLen) (hg : LG w) :
    Calls Tryd.prog 6 #[.agg #[.int .i64 C.p, .int .i64 C.f, .slice A2 C.ws.length Ac2, .slice A3 C.ks.length Ac3, .slice A4 C.ac.length Ac4], .int .i64 now, .int .i64 channel] w fun e w' => e = .returned (.bool true) ∧ Below w.heap.size w w' := by
  have FA := Aside0.mk (fun w1 (hb : Below w.heap.size w w1) => few_any (h.below hb) l2 l3 l4)
  have HXD := Aside0.mk h.few
  have HG := Aside0.mk hg
  have B1 := Aside0.mk (show (w.alloc (.cells #[.int .i64 C.p, .int .i64 C.f, .slice A2 C.ws.length Ac2, .slice A3 C.ks.length Ac3, .slice A4 C.ac.length Ac4] 26)).heap[w.heap.size]? = some (.cells #[.int .i64 C.p, .int .i64 C.f, .slice A2 C.ws.length Ac2, .slice A3 C.ks.length Ac3, .slice A4 C.ac.length Ac4] 26 (0, 0)) ∧ Below w.heap.size w (w.alloc (.cells #[.int .i64 C.p, .int .i64 C.f, .slice A2 C.ws.length Ac2, .slice A3 C.ks.length Ac3, .slice A4 C.ac.length Ac4] 26)) from ⟨blk_new w _, below_alloc (Below.refl _ _) _⟩)
  clear h l2 l3 l4 hg
  generalize fewC C = D at FA HXD
  go_enter Tryd.func6, Tryd.ntmps6
  go_upto_region 3 with (first | (go_at_call 8; refine (lives_any (HG.out.below B1.out.2)).mono ?_; rintro e w2 ⟨rfl, hb⟩; have B2_ := Aside0.mk (And.intro (blk_below B1.out.1 hb) (below_step B1.out.2 hb)); clear hb))
  have s0 := (blk_cell B2_.out.1 0).trans (show _ = some (.int .i64 C.p) from rfl)
  have s1 := (blk_cell B2_.out.1 1).trans (show _ = some (.int .i64 C.f) from rfl)
  have s2 := (blk_cell B2_.out.1 2).trans (show _ = some (.slice A2 C.ws.length Ac2) from rfl)
  have s3 := (blk_cell B2_.out.1 3).trans (show _ = some (.slice A3 C.ks.length Ac3) from rfl)
  have s4 := (blk_cell B2_.out.1 4).trans (show _ = some (.slice A4 C.ac.length Ac4) from rfl)
  clear B1
  go_upto_region 4 with (first | (go_at_call 9; refine (FA.out _ B2_.out.2).mono ?_; rintro e w3 ⟨rfl, hb⟩; have B3 := Aside0.mk (And.intro (blk_below B2_.out.1 hb) (below_step B2_.out.2 hb)); clear hb) | (go_at_call 10; refine (good_any (HXD.out.below B3.out.2)).mono ?_; rintro e w5 ⟨G, X2, Xc2, X3, Xc3, X4, Xc4, hG, rfl, hx, hb⟩; have HX := Aside0.mk hx; have B5 := Aside0.mk (And.intro (blk_below B3.out.1 hb) (below_step B3.out.2 hb)); have HGG := Aside0.mk hG; clear hb hx hG))
  clear s0 s1 s2 s3 s4 B2_ B3 FA HXD
  have H6 : GB w w5 (w5.alloc (.cells #[.int .i64 G.p, .int .i64 G.f, .slice X2 G.ws.length Xc2, .slice X3 G.ks.length Xc3, .slice X4 G.ac.length Xc4] 26)) #[.int .i64 G.p, .int .i64 G.f, .slice X2 G.ws.length Xc2, .slice X3 G.ks.length Xc3, .slice X4 G.ac.length Xc4] #[.int .i64 C.p, .int .i64 C.f, .slice A2 C.ws.length Ac2, .slice A3 C.ks.length Ac3, .slice A4 C.ac.length Ac4] := ⟨blk_new _ _, blk_alloc B5.out.1 _, below_alloc (Below.refl _ _) _, below_alloc B5.out.2 _⟩
  have HG5 := Aside0.mk (HG.out.below B5.out.2)
  clear B5 HG
  revert H6
  generalize (w5.alloc (.cells #[.int .i64 G.p, .int .i64 G.f, .slice X2 G.ws.length Xc2, .slice X3 G.ks.length Xc3, .slice X4 G.ac.length Xc4] 26)) = W6
  intro H6
  have H6A := Aside0.mk H6
  clear H6
  have k1 : G.ks.length ≤ 1000 := by have := HGG.out.k; omega
  have k2 : G.ac.length ≤ 1000 := by have := HGG.out.a; have := HGG.out.p; omega
  have k3 : G.ws.length ≤ 1000 := by have := HGG.out.w; omega
  have HM := um now 1000000 (by decide) (by decide)
  obtain ⟨m, hm⟩ : ∃ m, wrap64 (Int.tmod (IntKind.u64.wrap now) 1000000) = m := ⟨_, rfl⟩
  rw [hm] at HM
  have hm0 : 0 ≤ m := by omega
  have hm1 : m < 1000000 := by omega
  clear HM
  obtain ⟨k, hk⟩ : ∃ k, wrap64 (Int.tmod (IntKind.u64.wrap channel) 6) = k := ⟨_, rfl⟩
  have hcy := good_cyc HGG.out
  have hcw := cyc_who HGG.out hm0 (by omega)
  have hcs := cyc_serves HGG.out hm0 (by omega)
  have hsv : (serveN G k m 1 = -1 ∧ serveN G k (m + cycN G) 1 = -1) ∨ ((m ≤ serveN G k m 1 ∧ serveN G k m 1 ≤ 900000000) ∧ serveN G k (m + cycN G) 1 = serveN G k m 1 + cycN G) := by
    by_cases hc : 0 ≤ idxN k (quN G) ∧ countN G (-1) ≠ 0
    · exact Or.inr ⟨serve_ge HGG.out hm0 (by omega) hc.1 hc.2, cyc_serve HGG.out hm0 (by omega) hc.1 hc.2⟩
    · exact Or.inl ⟨no_serve HGG.out hc, no_serve HGG.out hc⟩
  have CY : Aside0 (∀ (W : World), Below w5.heap.size w5 W → Calls Tryd.prog 13 #[.agg #[.int .i64 G.p, .int .i64 G.f, .slice X2 G.ws.length Xc2, .slice X3 G.ks.length Xc3, .slice X4 G.ac.length Xc4]] W fun e w' => e = .returned (.int .i64 (cycN G)) ∧ Below W.heap.size W w') := ⟨fun  W hb => cycle_any (HX.out.below hb) (HG5.out.below hb) k1 k2 k3⟩
  have CW1 : Aside0 (∀ (W : World), Below w5.heap.size w5 W → Calls Tryd.prog 20 #[.agg #[.int .i64 G.p, .int .i64 G.f, .slice X2 G.ws.length Xc2, .slice X3 G.ks.length Xc3, .slice X4 G.ac.length Xc4], .int .i64 m] W fun e w' => e = .returned (.tuple #[.int .i64 ((whoN G m).getD 0), .bool (whoN G m).isSome]) ∧ Below W.heap.size W w') := ⟨fun  W hb => rwhose_any (HX.out.below hb) k1 k2 k3 m⟩
  have CW2 : Aside0 (∀ (W : World), Below w5.heap.size w5 W → Calls Tryd.prog 20 #[.agg #[.int .i64 G.p, .int .i64 G.f, .slice X2 G.ws.length Xc2, .slice X3 G.ks.length Xc3, .slice X4 G.ac.length Xc4], .int .i64 (m + cycN G)] W fun e w' => e = .returned (.tuple #[.int .i64 ((whoN G (m + cycN G)).getD 0), .bool (whoN G (m + cycN G)).isSome]) ∧ Below W.heap.size W w') := ⟨fun  W hb => rwhose_any (HX.out.below hb) k1 k2 k3 (m + cycN G)⟩
  have CS1 : Aside0 (∀ (W : World), Below w5.heap.size w5 W → Calls Tryd.prog 19 #[.agg #[.int .i64 G.p, .int .i64 G.f, .slice X2 G.ws.length Xc2, .slice X3 G.ks.length Xc3, .slice X4 G.ac.length Xc4], .int .i64 m] W fun e w' => e = .returned (.tuple #[.int .i64 ((servesN G m).getD 0), .bool (servesN G m).isSome]) ∧ Below W.heap.size W w') := ⟨fun  W hb => rserves_any (HX.out.below hb) k1 k2 k3 m⟩
  have CS2 : Aside0 (∀ (W : World), Below w5.heap.size w5 W → Calls Tryd.prog 19 #[.agg #[.int .i64 G.p, .int .i64 G.f, .slice X2 G.ws.length Xc2, .slice X3 G.ks.length Xc3, .slice X4 G.ac.length Xc4], .int .i64 (m + cycN G)] W fun e w' => e = .returned (.tuple #[.int .i64 ((servesN G (m + cycN G)).getD 0), .bool (servesN G (m + cycN G)).isSome]) ∧ Below W.heap.size W w') := ⟨fun  W hb => rserves_any (HX.out.below hb) k1 k2 k3 (m + cycN G)⟩
  have CV1 : Aside0 (∀ (W : World), Below w5.heap.size w5 W → Calls Tryd.prog 11 #[.agg #[.int .i64 G.p, .int .i64 G.f, .slice X2 G.ws.length Xc2, .slice X3 G.ks.length Xc3, .slice X4 G.ac.length Xc4], .int .i64 k, .int .i64 m, .int .i64 1] W fun e w' => e = .returned (.int .i64 (serveN G k m 1)) ∧ Below W.heap.size W w') := ⟨fun  W hb => serve_any (HX.out.below hb) (HG5.out.below hb) k1 k2 k3 k m 1⟩
  have CV2 : Aside0 (∀ (W : World), Below w5.heap.size w5 W → Calls Tryd.prog 11 #[.agg #[.int .i64 G.p, .int .i64 G.f, .slice X2 G.ws.length Xc2, .slice X3 G.ks.length Xc3, .slice X4 G.ac.length Xc4], .int .i64 k, .int .i64 (m + cycN G), .int .i64 1] W fun e w' => e = .returned (.int .i64 (serveN G k (m + cycN G) 1)) ∧ Below W.heap.size W w') := ⟨fun  W hb => serve_any (HX.out.below hb) (HG5.out.below hb) k1 k2 k3 k (m + cycN G) 1⟩
  rw [hcw] at CW2
  rw [hcs] at CS2
  obtain ⟨_, _, _, hy0, hy1⟩ := hcy
  clear hcw hcs k1 k2 k3 HX HG5 HGG
  generalize (whoN G m).getD 0 = a1 at CW1 CW2
  generalize (whoN G m).isSome = a2 at CW1 CW2
  generalize (servesN G m).getD 0 = a3 at CS1 CS2
  generalize (servesN G m).isSome = a4 at CS1 CS2
  generalize serveN G k (m + cycN G) 1 = s2 at CV2 hsv
  generalize serveN G k m 1 = s1 at CV1 hsv
  generalize cycN G = cy at CY CW2 CS2 CV2 hsv hy0 hy1
  have hmf : wrap64 (m + cy) = m + cy := w64_in (by omega) (by omega)
  have hmI : IntKind.i64.wrap (m + cy) = m + cy := (IntWalk.i64_left _).trans hmf
  have d1 : decide (cy < 1) = false := decide_eq_false (by omega)
  have g0 := (blk_cell H6A.out.g 0).trans (show _ = some (.int .i64 G.p) from rfl)
  have g1 := (blk_cell H6A.out.g 1).trans (show _ = some (.int .i64 G.f) from rfl)
  have g2 := (blk_cell H6A.out.g 2).trans (show _ = some (.slice X2 G.ws.length Xc2) from rfl)
  have g3 := (blk_cell H6A.out.g 3).trans (show _ = some (.slice X3 G.ks.length Xc3) from rfl)
  have g4 := (blk_cell H6A.out.g 4).trans (show _ = some (.slice X4 G.ac.length Xc4) from rfl)
  go_upto_region 5 with (first | fail)
  rw [hm]
  clear hm
  go_upto_region 8 with (first | (go_at_call 13; (with_reducible refine (CY.out _ H6A.out.h5).mono ?_); rintro e w10 ⟨rfl, hb⟩; have H10 := Aside0.mk (H6A.out.far hb); clear hb g0 g1 g2 g3 g4; have g0 := (blk_cell H10.out.g 0).trans (show _ = some (.int .i64 G.p) from rfl); have g1 := (blk_cell H10.out.g 1).trans (show _ = some (.int .i64 G.f) from rfl); have g2 := (blk_cell H10.out.g 2).trans (show _ = some (.slice X2 G.ws.length Xc2) from rfl); have g3 := (blk_cell H10.out.g 3).trans (show _ = some (.slice X3 G.ks.length Xc3) from rfl); have g4 := (blk_cell H10.out.g 4).trans (show _ = some (.slice X4 G.ac.length Xc4) from rfl)))
  clear H6A CY
  go_upto_region 9 with (first | (go_at_call 20; (with_reducible refine (CW1.out _ H10.out.h5).mono ?_); rintro e w11 ⟨rfl, hb⟩; have H11 := Aside0.mk (H10.out.far hb); clear hb g0 g1 g2 g3 g4; have g0 := (blk_cell H11.out.g 0).trans (show _ = some (.int .i64 G.p) from rfl); have g1 := (blk_cell H11.out.g 1).trans (show _ = some (.int .i64 G.f) from rfl); have g2 := (blk_cell H11.out.g 2).trans (show _ = some (.slice X2 G.ws.length Xc2) from rfl); have g3 := (blk_cell H11.out.g 3).trans (show _ = some (.slice X3 G.ks.length Xc3) from rfl); have g4 := (blk_cell H11.out.g 4).trans (show _ = some (.slice X4 G.ac.length Xc4) from rfl)))
  clear H10 CW1
  go_upto_region 10 with (first | (go_at_call 20; (with_reducible refine (CW2.out _ H11.out.h5).mono ?_); rintro e w12 ⟨rfl, hb⟩; have H12 := Aside0.mk (H11.out.far hb); clear hb g0 g1 g2 g3 g4; have g0 := (blk_cell H12.out.g 0).trans (show _ = some (.int .i64 G.p) from rfl); have g1 := (blk_cell H12.out.g 1).trans (show _ = some (.int .i64 G.f) from rfl); have g2 := (blk_cell H12.out.g 2).trans (show _ = some (.slice X2 G.ws.length Xc2) from rfl); have g3 := (blk_cell H12.out.g 3).trans (show _ = some (.slice X3 G.ks.length Xc3) from rfl); have g4 := (blk_cell H12.out.g 4).trans (show _ = some (.slice X4 G.ac.length Xc4) from rfl)))
  clear H11 CW2
  go_upto_region 11 with (first | (go_at_call 19; (with_reducible refine (CS1.out _ H12.out.h5).mono ?_); rintro e w13 ⟨rfl, hb⟩; have H13 := Aside0.mk (H12.out.far hb); clear hb g0 g1 g2 g3 g4; have g0 := (blk_cell H13.out.g 0).trans (show _ = some (.int .i64 G.p) from rfl); have g1 := (blk_cell H13.out.g 1).trans (show _ = some (.int .i64 G.f) from rfl); have g2 := (blk_cell H13.out.g 2).trans (show _ = some (.slice X2 G.ws.length Xc2) from rfl); have g3 := (blk_cell H13.out.g 3).trans (show _ = some (.slice X3 G.ks.length Xc3) from rfl); have g4 := (blk_cell H13.out.g 4).trans (show _ = some (.slice X4 G.ac.length Xc4) from rfl)))
  clear H12 CS1
  go_upto_region 12 with (first | (go_at_call 19; (with_reducible refine (CS2.out _ H13.out.h5).mono ?_); rintro e w14 ⟨rfl, hb⟩; have H14 := Aside0.mk (H13.out.far hb); clear hb g0 g1 g2 g3 g4; have g0 := (blk_cell H14.out.g 0).trans (show _ = some (.int .i64 G.p) from rfl); have g1 := (blk_cell H14.out.g 1).trans (show _ = some (.int .i64 G.f) from rfl); have g2 := (blk_cell H14.out.g 2).trans (show _ = some (.slice X2 G.ws.length Xc2) from rfl); have g3 := (blk_cell H14.out.g 3).trans (show _ = some (.slice X3 G.ks.length Xc3) from rfl); have g4 := (blk_cell H14.out.g 4).trans (show _ = some (.slice X4 G.ac.length Xc4) from rfl)))
  clear H13 CS2
  go_upto_region 13 with (first | fail)
  rw [hk]
  clear hk
  go_upto_region 14 with (first | (go_at_call 11; (with_reducible refine (CV1.out _ H14.out.h5).mono ?_); rintro e w15 ⟨rfl, hb⟩; have H15 := Aside0.mk (H14.out.far hb); clear hb g0 g1 g2 g3 g4; have g0 := (blk_cell H15.out.g 0).trans (show _ = some (.int .i64 G.p) from rfl); have g1 := (blk_cell H15.out.g 1).trans (show _ = some (.int .i64 G.f) from rfl); have g2 := (blk_cell H15.out.g 2).trans (show _ = some (.slice X2 G.ws.length Xc2) from rfl); have g3 := (blk_cell H15.out.g 3).trans (show _ = some (.slice X3 G.ks.length Xc3) from rfl); have g4 := (blk_cell H15.out.g 4).trans (show _ = some (.slice X4 G.ac.length Xc4) from rfl)))
  clear H14 CV1
  rcases hsv with ⟨rfl, rfl⟩ | ⟨⟨h1, h2⟩, rfl⟩
  · go_wp2_with (first | (go_at_call 11; (with_reducible refine (CV2.out _ H15.out.h5).mono ?_); rintro e w16 ⟨rfl, hb⟩; have H16 := Aside0.mk (H15.out.far hb); clear hb g0 g1 g2 g3 g4))
    go_ret
    exact ⟨rfl, H16.out.h⟩
  · have e1 : decide (s1 = -1) = false := decide_eq_false (by omega)
    have e2 : (s1 == -1) = false := beq_eq_false_iff_ne.mpr (by omega)
    have e3 : decide (m ≤ s1) = true := decide_eq_true h1
    have hsf : wrap64 (s1 + cy) = s1 + cy := w64_in (by omega) (by omega)
    have hsI : IntKind.i64.wrap (s1 + cy) = s1 + cy := (IntWalk.i64_left _).trans hsf
    go_wp2_with (first | (go_at_call 11; (with_reducible refine (CV2.out _ H15.out.h5).mono ?_); rintro e w16 ⟨rfl, hb⟩; have H16 := Aside0.mk (H15.out.far hb); clear hb g0 g1 g2 g3 g4))
    go_ret
    exact ⟨rfl, H16.out.h⟩
end Go.Proofs.YtcebmgndniejcaaDoor.Wn
