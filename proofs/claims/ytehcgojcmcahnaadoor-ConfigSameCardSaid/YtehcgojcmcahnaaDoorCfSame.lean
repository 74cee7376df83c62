/- ConfigSame: whether two configs are the same; a clone shares no memory. -/
import Derived.Test.YtehcgojcmcahnaaDoorCfY
set_option linter.unusedVariables false
set_option linter.unusedSimpArgs false
namespace Go.Proofs.YtehcgojcmcahnaaDoor.Cf
open Go.RowKit Go.Proofs.YtehcgojcmcahnaaDoorW.PrintWords Go.Proofs.YtehcgojcmcahnaaDoorW.PrintLast Go.Proofs.YtehcgojcmcahnaaDoorW.PrintMore Go.Proofs.YtehcgojcmcahnaaDoor.Cz Go.Proofs.YtehcgojcmcahnaaDoor.PConfigSame
attribute [local go_sem] max2_int min2_int max_two min_two max_three min_three max_four min_four Tryd.underlying26 Tryd.underlying33 Tryd.underlying35
set_option maxHeartbeats 16000000 in
set_option maxRecDepth 100000 in
theorem configSame_any {C D : Cfg} {A2 A3 A4 B2 B3 B4 : Option Addr} {Ac2 Ac3 Ac4 Bc2 Bc3 Bc4 : Nat} {w : World} (h : CX w C A2 Ac2 A3 Ac3 A4 Ac4) (k : CX w D B2 Bc2 B3 Bc3 B4 Bc4)
    (l2 : C.ws.length ≤ maxLen) (l3 : C.ks.length ≤ maxLen) (l4 : C.ac.length ≤ maxLen) (m2 : D.ws.length ≤ maxLen) (m3 : D.ks.length ≤ maxLen) (m4 : D.ac.length ≤ maxLen) (hg : LG w) :
    Calls Tryd.prog 4 #[.agg #[.int .i64 C.p, .int .i64 C.f, .slice A2 C.ws.length Ac2, .slice A3 C.ks.length Ac3, .slice A4 C.ac.length Ac4], .agg #[.int .i64 D.p, .int .i64 D.f, .slice B2 D.ws.length Bc2, .slice B3 D.ks.length Bc3, .slice B4 D.ac.length Bc4]] w fun e w' => e = .returned (.bool true) ∧ Below w.heap.size w w' := by
  have HA := Aside0.mk h
  have HB := Aside0.mk k
  have FA := fun w1 (hb : Below w.heap.size w w1) => few_any (h.below hb) l2 l3 l4
  have FB_ := fun w1 (hb : Below w.heap.size w w1) => few_any (k.below hb) m2 m3 m4
  have HG := Aside0.mk hg
  have E2 := h.few
  have E3 := k.few
  have q2 : (fewC C).ws.length ≤ 10 := by show (C.ws.take 10).length ≤ 10; rw [List.length_take]; omega
  have q3 : (fewC C).ks.length ≤ 10 := by show (C.ks.take 10).length ≤ 10; rw [List.length_take]; omega
  have q4 : (fewC C).ac.length ≤ 10 := by show (C.ac.take 10).length ≤ 10; rw [List.length_take]; omega
  have r2 : (fewC D).ws.length ≤ 10 := by show (D.ws.take 10).length ≤ 10; rw [List.length_take]; omega
  have r3 : (fewC D).ks.length ≤ 10 := by show (D.ks.take 10).length ≤ 10; rw [List.length_take]; omega
  have r4 : (fewC D).ac.length ≤ 10 := by show (D.ac.take 10).length ≤ 10; rw [List.length_take]; omega
  generalize fewC C = F at FA E2 q2 q3 q4
  generalize fewC D = G at FB_ E3 r2 r3 r4
  have EF := Aside0.mk E2
  have EG := Aside0.mk E3
  replace FA := Aside0.mk FA
  replace FB_ := Aside0.mk FB_
  clear h k l2 l3 l4 m2 m3 m4 hg E2 E3
  have a1 := blk_alloc (blk_new w (.cells #[.int .i64 C.p, .int .i64 C.f, .slice A2 C.ws.length Ac2, .slice A3 C.ks.length Ac3, .slice A4 C.ac.length Ac4] 26)) (.cells #[.int .i64 D.p, .int .i64 D.f, .slice B2 D.ws.length Bc2, .slice B3 D.ks.length Bc3, .slice B4 D.ac.length Bc4] 26)
  have b1 : ((w.alloc (.cells #[.int .i64 C.p, .int .i64 C.f, .slice A2 C.ws.length Ac2, .slice A3 C.ks.length Ac3, .slice A4 C.ac.length Ac4] 26)).alloc (.cells #[.int .i64 D.p, .int .i64 D.f, .slice B2 D.ws.length Bc2, .slice B3 D.ks.length Bc3, .slice B4 D.ac.length Bc4] 26)).heap[w.heap.size + 1]? = some (.cells #[.int .i64 D.p, .int .i64 D.f, .slice B2 D.ws.length Bc2, .slice B3 D.ks.length Bc3, .slice B4 D.ac.length Bc4] 26 (0, 0)) := by simpa using heap_alloc_new (w.alloc (.cells #[.int .i64 C.p, .int .i64 C.f, .slice A2 C.ws.length Ac2, .slice A3 C.ks.length Ac3, .slice A4 C.ac.length Ac4] 26)) (.cells #[.int .i64 D.p, .int .i64 D.f, .slice B2 D.ws.length Bc2, .slice B3 D.ks.length Bc3, .slice B4 D.ac.length Bc4] 26)
  have B1 := Aside0.mk (And.intro a1 (And.intro b1 (below_alloc (below_alloc (Below.refl w.heap.size w) (.cells #[.int .i64 C.p, .int .i64 C.f, .slice A2 C.ws.length Ac2, .slice A3 C.ks.length Ac3, .slice A4 C.ac.length Ac4] 26)) (.cells #[.int .i64 D.p, .int .i64 D.f, .slice B2 D.ws.length Bc2, .slice B3 D.ks.length Bc3, .slice B4 D.ac.length Bc4] 26))))
  clear a1 b1
  go_enter Tryd.func4, Tryd.ntmps4
  go_upto_region 3 with (first | (go_at_call 8; refine (lives_any (HG.out.below B1.out.2.2)).mono ?_; rintro e w2 ⟨rfl, hb⟩; have B2_ := Aside0.mk (And.intro (blk_below B1.out.1 hb) (And.intro (blk_below B1.out.2.1 hb) (below_step B1.out.2.2 hb))); clear hb))
  refine wp_region_any (by kernel_rfl) ?_
  change wpAny _ _ _ _ _ _ _ (World.drew _)
  refine OrdU.wpAny_of_U (S := fun w' => w'.heap[w.heap.size + 1]? = some (.cells #[.int .i64 D.p, .int .i64 D.f, .slice B2 D.ws.length Bc2, .slice B3 D.ks.length Bc3, .slice B4 D.ac.length Bc4] 26 (0, 0))) (U := fun j => j == 5) _ _ _ _ ?_
  have B3_ := Aside0.mk (And.intro (blk_drew B2_.out.1) (And.intro (blk_drew B2_.out.2.1) (below_drew B2_.out.2.2)))
  clear B1 B2_
  refine OrdU.wpAnyU_take (i := 2) (v := ?v2) rfl (by kernel_rfl) (by kernel_rfl) (by kernel_rfl) (by kernel_rfl) (fun _ _ _ h => h) (Or.inl ⟨by rfl, ?hy2⟩) B3_.out.2.1 ?rest2
  case hy2 =>
    intro w1 hSw
    try dsimp only at hSw
    have s1 := hSw
    have s10 := (blk_cell s1 0).trans (show _ = some (.int .i64 D.p) from rfl)
    have s11 := (blk_cell s1 1).trans (show _ = some (.int .i64 D.f) from rfl)
    have s12 := (blk_cell s1 2).trans (show _ = some (.slice B2 D.ws.length Bc2) from rfl)
    have s13 := (blk_cell s1 3).trans (show _ = some (.slice B3 D.ks.length Bc3) from rfl)
    have s14 := (blk_cell s1 4).trans (show _ = some (.slice B4 D.ac.length Bc4) from rfl)
    go_simp
    try with_reducible rfl
  try simp only [Act.put, List.setIfInBounds_toArray, List.set_cons_zero, List.set_cons_succ]
  have s0 := B3_.out.1
  have s00 := (blk_cell s0 0).trans (show _ = some (.int .i64 C.p) from rfl)
  have s01 := (blk_cell s0 1).trans (show _ = some (.int .i64 C.f) from rfl)
  have s02 := (blk_cell s0 2).trans (show _ = some (.slice A2 C.ws.length Ac2) from rfl)
  have s03 := (blk_cell s0 3).trans (show _ = some (.slice A3 C.ks.length Ac3) from rfl)
  have s04 := (blk_cell s0 4).trans (show _ = some (.slice A4 C.ac.length Ac4) from rfl)
  clear s0
  refine OrdU.wpAnyU_one (i := 0) (by kernel_rfl) rfl (fun K' hK => ?_)
  go_simp
  refine hK.out _ _ (fun _ h => h) ?_
  clear hK s00 s01 s02 s03 s04
  try simp only [Act.put, List.setIfInBounds_toArray, List.set_cons_zero, List.set_cons_succ]
  refine OrdU.wpAnyU_one (i := 1) (by kernel_rfl) rfl (fun K' hK => ?_)
  go_simp
  go_wp2_with (first | (go_at_call 11; refine (FA.out _ B3_.out.2.2).mono ?_; rintro e w3 ⟨rfl, hb⟩; replace B3_ := Aside0.mk (And.intro (blk_below B3_.out.1 hb) (And.intro (blk_below B3_.out.2.1 hb) (below_step B3_.out.2.2 hb))); clear hb))
  refine hK.out _ _ (fun _ _ => B3_.out.2.1) ?_
  clear hK
  try simp only [Act.put, List.setIfInBounds_toArray, List.set_cons_zero, List.set_cons_succ]
  refine OrdU.wpAnyU_one (i := 3) (by kernel_rfl) rfl (fun K' hK => ?_)
  go_simp
  go_wp2_with (first | (go_at_call 11; refine (FB_.out _ B3_.out.2.2).mono ?_; rintro e w4 ⟨rfl, hb⟩; replace B3_ := Aside0.mk (And.intro (blk_below B3_.out.1 hb) (And.intro (blk_below B3_.out.2.1 hb) (below_step B3_.out.2.2 hb))); clear hb))
  refine hK.out _ _ (fun _ _ => B3_.out.2.1) ?_
  clear hK
  try simp only [Act.put, List.setIfInBounds_toArray, List.set_cons_zero, List.set_cons_succ]
  have s0 := B3_.out.1
  have s1 := B3_.out.2.1
  have s00 := (blk_cell s0 0).trans (show _ = some (.int .i64 C.p) from rfl)
  have s01 := (blk_cell s0 1).trans (show _ = some (.int .i64 C.f) from rfl)
  have s02 := (blk_cell s0 2).trans (show _ = some (.slice A2 C.ws.length Ac2) from rfl)
  have s03 := (blk_cell s0 3).trans (show _ = some (.slice A3 C.ks.length Ac3) from rfl)
  have s04 := (blk_cell s0 4).trans (show _ = some (.slice A4 C.ac.length Ac4) from rfl)
  have s10 := (blk_cell s1 0).trans (show _ = some (.int .i64 D.p) from rfl)
  have s11 := (blk_cell s1 1).trans (show _ = some (.int .i64 D.f) from rfl)
  have s12 := (blk_cell s1 2).trans (show _ = some (.slice B2 D.ws.length Bc2) from rfl)
  have s13 := (blk_cell s1 3).trans (show _ = some (.slice B3 D.ks.length Bc3) from rfl)
  have s14 := (blk_cell s1 4).trans (show _ = some (.slice B4 D.ac.length Bc4) from rfl)
  have f00 := blk_frozen s0 0
  have f01 := blk_frozen s0 1
  have f02 := blk_frozen s0 2
  have f03 := blk_frozen s0 3
  have f04 := blk_frozen s0 4
  have f10 := blk_frozen s1 0
  have f11 := blk_frozen s1 1
  have f12 := blk_frozen s1 2
  have f13 := blk_frozen s1 3
  have f14 := blk_frozen s1 4
  clear s0 s1
  refine OrdU.wpAnyU_one (i := 4) (by kernel_rfl) rfl (fun K' hK => ?_)
  go_simp
  refine hK.out _ _ (fun _ hs => far5 hs (by simp)) ?_
  clear hK
  try simp only [Act.put, List.setIfInBounds_toArray, List.set_cons_zero, List.set_cons_succ]
  refine OrdU.wpAnyU_one (i := 5) (by kernel_rfl) rfl (fun K' hK => ?_)
  go_simp
  refine hK.out _ _ (fun h => absurd h (by decide)) ?_
  clear hK
  try simp only [Act.put, List.setIfInBounds_toArray, List.set_cons_zero, List.set_cons_succ]
  refine OrdU.wpAnyU_done (by kernel_rfl) ?_ _
  have Z : ((((((((((w4.setCell ⟨w.heap.size, 0, none⟩ (.int .i64 F.p)).setCell ⟨w.heap.size, 1, none⟩ (.int .i64 F.f)).setCell ⟨w.heap.size, 2, none⟩ (.slice A2 F.ws.length Ac2)).setCell ⟨w.heap.size, 3, none⟩ (.slice A3 F.ks.length Ac3)).setCell ⟨w.heap.size, 4, none⟩ (.slice A4 F.ac.length Ac4)).setCell ⟨w.heap.size + 1, 0, none⟩ (.int .i64 G.p)).setCell ⟨w.heap.size + 1, 1, none⟩ (.int .i64 G.f)).setCell ⟨w.heap.size + 1, 2, none⟩ (.slice B2 G.ws.length Bc2)).setCell ⟨w.heap.size + 1, 3, none⟩ (.slice B3 G.ks.length Bc3)).setCell ⟨w.heap.size + 1, 4, none⟩ (.slice B4 G.ac.length Bc4)).heap[w.heap.size]? = some (.cells #[.int .i64 F.p, .int .i64 F.f, .slice A2 F.ws.length Ac2, .slice A3 F.ks.length Ac3, .slice A4 F.ac.length Ac4] 26 (0, 0)) ∧ ((((((((((w4.setCell ⟨w.heap.size, 0, none⟩ (.int .i64 F.p)).setCell ⟨w.heap.size, 1, none⟩ (.int .i64 F.f)).setCell ⟨w.heap.size, 2, none⟩ (.slice A2 F.ws.length Ac2)).setCell ⟨w.heap.size, 3, none⟩ (.slice A3 F.ks.length Ac3)).setCell ⟨w.heap.size, 4, none⟩ (.slice A4 F.ac.length Ac4)).setCell ⟨w.heap.size + 1, 0, none⟩ (.int .i64 G.p)).setCell ⟨w.heap.size + 1, 1, none⟩ (.int .i64 G.f)).setCell ⟨w.heap.size + 1, 2, none⟩ (.slice B2 G.ws.length Bc2)).setCell ⟨w.heap.size + 1, 3, none⟩ (.slice B3 G.ks.length Bc3)).setCell ⟨w.heap.size + 1, 4, none⟩ (.slice B4 G.ac.length Bc4)).heap[w.heap.size + 1]? = some (.cells #[.int .i64 G.p, .int .i64 G.f, .slice B2 G.ws.length Bc2, .slice B3 G.ks.length Bc3, .slice B4 G.ac.length Bc4] 26 (0, 0)) ∧ Below w.heap.size w ((((((((((w4.setCell ⟨w.heap.size, 0, none⟩ (.int .i64 F.p)).setCell ⟨w.heap.size, 1, none⟩ (.int .i64 F.f)).setCell ⟨w.heap.size, 2, none⟩ (.slice A2 F.ws.length Ac2)).setCell ⟨w.heap.size, 3, none⟩ (.slice A3 F.ks.length Ac3)).setCell ⟨w.heap.size, 4, none⟩ (.slice A4 F.ac.length Ac4)).setCell ⟨w.heap.size + 1, 0, none⟩ (.int .i64 G.p)).setCell ⟨w.heap.size + 1, 1, none⟩ (.int .i64 G.f)).setCell ⟨w.heap.size + 1, 2, none⟩ (.slice B2 G.ws.length Bc2)).setCell ⟨w.heap.size + 1, 3, none⟩ (.slice B3 G.ks.length Bc3)).setCell ⟨w.heap.size + 1, 4, none⟩ (.slice B4 G.ac.length Bc4)) := ⟨far5 (put5 B3_.out.1) (by simp), put5 (far5 B3_.out.2.1 (by simp)), bel5 (bel5 B3_.out.2.2 (Nat.le_refl _)) (by simp)⟩
  clear B3_ s00 s10 f00 f10 s01 s11 f01 f11 s02 s12 f02 f12 s03 s13 f03 f13 s04 s14 f04 f14
  revert Z
  generalize ((((((((((w4.setCell ⟨w.heap.size, 0, none⟩ (.int .i64 F.p)).setCell ⟨w.heap.size, 1, none⟩ (.int .i64 F.f)).setCell ⟨w.heap.size, 2, none⟩ (.slice A2 F.ws.length Ac2)).setCell ⟨w.heap.size, 3, none⟩ (.slice A3 F.ks.length Ac3)).setCell ⟨w.heap.size, 4, none⟩ (.slice A4 F.ac.length Ac4)).setCell ⟨w.heap.size + 1, 0, none⟩ (.int .i64 G.p)).setCell ⟨w.heap.size + 1, 1, none⟩ (.int .i64 G.f)).setCell ⟨w.heap.size + 1, 2, none⟩ (.slice B2 G.ws.length Bc2)).setCell ⟨w.heap.size + 1, 3, none⟩ (.slice B3 G.ks.length Bc3)).setCell ⟨w.heap.size + 1, 4, none⟩ (.slice B4 G.ac.length Bc4)) = W5
  intro Z
  have z0 := Z.1
  have z00 := (blk_cell z0 0).trans (show _ = some (.int .i64 F.p) from rfl)
  have z01 := (blk_cell z0 1).trans (show _ = some (.int .i64 F.f) from rfl)
  have z02 := (blk_cell z0 2).trans (show _ = some (.slice A2 F.ws.length Ac2) from rfl)
  have z03 := (blk_cell z0 3).trans (show _ = some (.slice A3 F.ks.length Ac3) from rfl)
  have z04 := (blk_cell z0 4).trans (show _ = some (.slice A4 F.ac.length Ac4) from rfl)
  clear z0
  replace Z := Aside0.mk Z
  go_upto_region 5 with (first | (go_at_call 9; refine (clone_any (EF.out.below Z.out.2.2) (by omega) (by omega) (by omega)).mono ?_; rintro e w6 ⟨X2, Xc2, X3, Xc3, X4, Xc4, rfl, hx⟩; have HX := Aside0.mk hx; clear hx))
  have T : (w6.alloc (.cells #[.int .i64 F.p, .int .i64 F.f, .slice X2 F.ws.length Xc2, .slice X3 F.ks.length Xc3, .slice X4 F.ac.length Xc4] 26)).heap[w.heap.size]? = some (.cells #[.int .i64 F.p, .int .i64 F.f, .slice A2 F.ws.length Ac2, .slice A3 F.ks.length Ac3, .slice A4 F.ac.length Ac4] 26 (0, 0)) ∧ (w6.alloc (.cells #[.int .i64 F.p, .int .i64 F.f, .slice X2 F.ws.length Xc2, .slice X3 F.ks.length Xc3, .slice X4 F.ac.length Xc4] 26)).heap[w.heap.size + 1]? = some (.cells #[.int .i64 G.p, .int .i64 G.f, .slice B2 G.ws.length Bc2, .slice B3 G.ks.length Bc3, .slice B4 G.ac.length Bc4] 26 (0, 0)) ∧ (w6.alloc (.cells #[.int .i64 F.p, .int .i64 F.f, .slice X2 F.ws.length Xc2, .slice X3 F.ks.length Xc3, .slice X4 F.ac.length Xc4] 26)).heap[w6.heap.size]? = some (.cells #[.int .i64 F.p, .int .i64 F.f, .slice X2 F.ws.length Xc2, .slice X3 F.ks.length Xc3, .slice X4 F.ac.length Xc4] 26 (0, 0)) ∧ Below w.heap.size w (w6.alloc (.cells #[.int .i64 F.p, .int .i64 F.f, .slice X2 F.ws.length Xc2, .slice X3 F.ks.length Xc3, .slice X4 F.ac.length Xc4] 26)) ∧ CX (w6.alloc (.cells #[.int .i64 F.p, .int .i64 F.f, .slice X2 F.ws.length Xc2, .slice X3 F.ks.length Xc3, .slice X4 F.ac.length Xc4] 26)) F X2 Xc2 X3 Xc3 X4 Xc4 := ⟨blk_alloc (blk_below Z.out.1 HX.out.o2.bel) _, blk_alloc (blk_below Z.out.2.1 HX.out.o2.bel) _, blk_new _ _, below_alloc (below_step Z.out.2.2 HX.out.o2.bel) _, HX.out.cx.below (below_alloc (Below.refl _ _) _)⟩
  clear Z HX z00 z01 z02 z03 z04
  revert T
  generalize (w6.alloc (.cells #[.int .i64 F.p, .int .i64 F.f, .slice X2 F.ws.length Xc2, .slice X3 F.ks.length Xc3, .slice X4 F.ac.length Xc4] 26)) = W7
  generalize w6.heap.size = g5
  intro T
  replace T := Aside0.mk T
  have hrr : (sB F G != sB F G) = false := bne_self_eq_false _
  refine wp_region_any (by kernel_rfl) ?_
  change wpAny _ _ _ _ _ _ _ (World.drew _)
  refine OrdU.wpAny_of_U (S := fun w' => w'.heap[w.heap.size]? = some (.cells #[.int .i64 F.p, .int .i64 F.f, .slice A2 F.ws.length Ac2, .slice A3 F.ks.length Ac3, .slice A4 F.ac.length Ac4] 26 (0, 0)) ∧ w'.heap[w.heap.size + 1]? = some (.cells #[.int .i64 G.p, .int .i64 G.f, .slice B2 G.ws.length Bc2, .slice B3 G.ks.length Bc3, .slice B4 G.ac.length Bc4] 26 (0, 0)) ∧ w'.heap[g5]? = some (.cells #[.int .i64 F.p, .int .i64 F.f, .slice X2 F.ws.length Xc2, .slice X3 F.ks.length Xc3, .slice X4 F.ac.length Xc4] 26 (0, 0))) (U := fun _ => false) _ _ _ _ ?_
  replace T := Aside0.mk (show _ from And.intro (blk_drew T.out.1) (And.intro (blk_drew T.out.2.1) (And.intro (blk_drew T.out.2.2.1) (And.intro (below_drew T.out.2.2.2.1) (T.out.2.2.2.2.below (below_drew (Below.refl _ _)))))))
  have HRX : ∀ w1, CX w1 F X2 Xc2 X3 Xc3 X4 Xc4 → CX w1 F A2 Ac2 A3 Ac3 A4 Ac4 → Calls Tryd.prog 14 #[.agg #[.int .i64 F.p, .int .i64 F.f, .slice X2 F.ws.length Xc2, .slice X3 F.ks.length Xc3, .slice X4 F.ac.length Xc4], .agg #[.int .i64 F.p, .int .i64 F.f, .slice A2 F.ws.length Ac2, .slice A3 F.ks.length Ac3, .slice A4 F.ac.length Ac4]] w1 fun e w' => e = .returned (.bool true) ∧ Below w1.heap.size w1 w' := fun w1 h1 h2 => by
    have := rsame_any h1 h2 (by omega) (by omega) (by omega)
    rw [sB_refl] at this
    exact this
  have HSA : ∀ w1, CX w1 F A2 Ac2 A3 Ac3 A4 Ac4 → Calls Tryd.prog 13 #[.agg #[.int .i64 F.p, .int .i64 F.f, .slice A2 F.ws.length Ac2, .slice A3 F.ks.length Ac3, .slice A4 F.ac.length Ac4], .agg #[.int .i64 F.p, .int .i64 F.f, .slice A2 F.ws.length Ac2, .slice A3 F.ks.length Ac3, .slice A4 F.ac.length Ac4]] w1 fun e w' => e = .returned (.bool true) ∧ Below w1.heap.size w1 w' := fun w1 h1 => by
    have := same_any h1 h1 (by omega) (by omega) (by omega)
    rw [sB_refl] at this
    exact this
  replace HRX := Aside0.mk HRX
  replace HSA := Aside0.mk HSA
  refine OrdU.wpAnyU_take (i := 0) (v := ?u0) rfl (by kernel_rfl) (by kernel_rfl) (by kernel_rfl) (by kernel_rfl) (fun _ _ _ h => h) (Or.inl ⟨by rfl, ?ky0⟩) ⟨T.out.1, T.out.2.1, T.out.2.2.1⟩ ?sest0
  case ky0 =>
    intro w1 hSw
    try dsimp only at hSw
    obtain ⟨s0, s1, s2⟩ := hSw
    have s00 := (blk_cell s0 0).trans (show _ = some (.int .i64 F.p) from rfl)
    have s01 := (blk_cell s0 1).trans (show _ = some (.int .i64 F.f) from rfl)
    have s02 := (blk_cell s0 2).trans (show _ = some (.slice A2 F.ws.length Ac2) from rfl)
    have s03 := (blk_cell s0 3).trans (show _ = some (.slice A3 F.ks.length Ac3) from rfl)
    have s04 := (blk_cell s0 4).trans (show _ = some (.slice A4 F.ac.length Ac4) from rfl)
    clear s0 s1 s2
    go_simp
    try with_reducible rfl
  try simp only [Act.put, List.setIfInBounds_toArray, List.set_cons_zero, List.set_cons_succ]
  refine OrdU.wpAnyU_take (i := 1) (v := ?u1) rfl (by kernel_rfl) (by kernel_rfl) (by kernel_rfl) (by kernel_rfl) (fun _ _ _ h => h) (Or.inl ⟨by rfl, ?ky1⟩) ⟨T.out.1, T.out.2.1, T.out.2.2.1⟩ ?sest1
  case ky1 =>
    intro w1 hSw
    try dsimp only at hSw
    obtain ⟨s0, s1, s2⟩ := hSw
    have s10 := (blk_cell s1 0).trans (show _ = some (.int .i64 G.p) from rfl)
    have s11 := (blk_cell s1 1).trans (show _ = some (.int .i64 G.f) from rfl)
    have s12 := (blk_cell s1 2).trans (show _ = some (.slice B2 G.ws.length Bc2) from rfl)
    have s13 := (blk_cell s1 3).trans (show _ = some (.slice B3 G.ks.length Bc3) from rfl)
    have s14 := (blk_cell s1 4).trans (show _ = some (.slice B4 G.ac.length Bc4) from rfl)
    clear s0 s1 s2
    go_simp
    try with_reducible rfl
  try simp only [Act.put, List.setIfInBounds_toArray, List.set_cons_zero, List.set_cons_succ]
  refine OrdU.wpAnyU_take (i := 3) (v := ?u3) rfl (by kernel_rfl) (by kernel_rfl) (by kernel_rfl) (by kernel_rfl) (fun _ _ _ h => h) (Or.inl ⟨by rfl, ?ky3⟩) ⟨T.out.1, T.out.2.1, T.out.2.2.1⟩ ?sest3
  case ky3 =>
    intro w1 hSw
    try dsimp only at hSw
    obtain ⟨s0, s1, s2⟩ := hSw
    have s00 := (blk_cell s0 0).trans (show _ = some (.int .i64 F.p) from rfl)
    have s01 := (blk_cell s0 1).trans (show _ = some (.int .i64 F.f) from rfl)
    have s02 := (blk_cell s0 2).trans (show _ = some (.slice A2 F.ws.length Ac2) from rfl)
    have s03 := (blk_cell s0 3).trans (show _ = some (.slice A3 F.ks.length Ac3) from rfl)
    have s04 := (blk_cell s0 4).trans (show _ = some (.slice A4 F.ac.length Ac4) from rfl)
    clear s0 s1 s2
    go_simp
    try with_reducible rfl
  try simp only [Act.put, List.setIfInBounds_toArray, List.set_cons_zero, List.set_cons_succ]
  refine OrdU.wpAnyU_take (i := 4) (v := ?u4) rfl (by kernel_rfl) (by kernel_rfl) (by kernel_rfl) (by kernel_rfl) (fun _ _ _ h => h) (Or.inl ⟨by rfl, ?ky4⟩) ⟨T.out.1, T.out.2.1, T.out.2.2.1⟩ ?sest4
  case ky4 =>
    intro w1 hSw
    try dsimp only at hSw
    obtain ⟨s0, s1, s2⟩ := hSw
    have s10 := (blk_cell s1 0).trans (show _ = some (.int .i64 G.p) from rfl)
    have s11 := (blk_cell s1 1).trans (show _ = some (.int .i64 G.f) from rfl)
    have s12 := (blk_cell s1 2).trans (show _ = some (.slice B2 G.ws.length Bc2) from rfl)
    have s13 := (blk_cell s1 3).trans (show _ = some (.slice B3 G.ks.length Bc3) from rfl)
    have s14 := (blk_cell s1 4).trans (show _ = some (.slice B4 G.ac.length Bc4) from rfl)
    clear s0 s1 s2
    go_simp
    try with_reducible rfl
  try simp only [Act.put, List.setIfInBounds_toArray, List.set_cons_zero, List.set_cons_succ]
  refine OrdU.wpAnyU_one (i := 2) (by kernel_rfl) rfl (fun K' hK => ?_)
  go_simp
  go_wp2_with (first | (go_at_call 13; refine (same_any (EF.out.below T.out.2.2.2.1) (EG.out.below T.out.2.2.2.1) (by omega) (by omega) (by omega)).mono ?_; rintro e w8 ⟨rfl, hb⟩; replace T := Aside0.mk (show _ from And.intro (blk_below T.out.1 hb) (And.intro (blk_below T.out.2.1 hb) (And.intro (blk_below T.out.2.2.1 hb) (And.intro (below_step T.out.2.2.2.1 hb) (T.out.2.2.2.2.below hb))))); clear hb))
  refine hK.out _ _ (fun _ _ => ⟨T.out.1, T.out.2.1, T.out.2.2.1⟩) ?_
  clear hK
  try simp only [Act.put, List.setIfInBounds_toArray, List.set_cons_zero, List.set_cons_succ]
  refine OrdU.wpAnyU_one (i := 5) (by kernel_rfl) rfl (fun K' hK => ?_)
  go_simp
  go_wp2_with (first | (go_at_call 14; refine (rsame_any (EF.out.below T.out.2.2.2.1) (EG.out.below T.out.2.2.2.1) (by omega) (by omega) (by omega)).mono ?_; rintro e w9 ⟨rfl, hb⟩; replace T := Aside0.mk (show _ from And.intro (blk_below T.out.1 hb) (And.intro (blk_below T.out.2.1 hb) (And.intro (blk_below T.out.2.2.1 hb) (And.intro (below_step T.out.2.2.2.1 hb) (T.out.2.2.2.2.below hb))))); clear hb))
  refine hK.out _ _ (fun _ _ => ⟨T.out.1, T.out.2.1, T.out.2.2.1⟩) ?_
  clear hK
  try simp only [Act.put, List.setIfInBounds_toArray, List.set_cons_zero, List.set_cons_succ]
  refine OrdU.wpAnyU_takeW (i := 6) (v := ?u6) rfl (by kernel_rfl) (by kernel_rfl) (by kernel_rfl) (fun _ _ _ h => h) (Or.inl ⟨by rfl, ?ky6⟩) ?sest6
  case ky6 =>
    intro w1 hSw
    go_simp
    try with_reducible rfl
  try simp only [Act.put, List.setIfInBounds_toArray, List.set_cons_zero, List.set_cons_succ]
  refine OrdU.wpAnyU_takeW (i := 7) (v := ?u7) rfl (by kernel_rfl) (by kernel_rfl) (by kernel_rfl) (fun _ _ _ h => h) (Or.inl ⟨by rfl, ?ky7⟩) ?sest7
  case ky7 =>
    intro w1 hSw
    go_simp
    try with_reducible rfl
  try simp only [Act.put, List.setIfInBounds_toArray, List.set_cons_zero, List.set_cons_succ]
  refine OrdU.wpAnyU_take (i := 8) (v := ?u8) rfl (by kernel_rfl) (by kernel_rfl) (by kernel_rfl) (by kernel_rfl) (fun _ _ _ h => h) (Or.inl ⟨by rfl, ?ky8⟩) ⟨T.out.1, T.out.2.1, T.out.2.2.1⟩ ?sest8
  case ky8 =>
    intro w1 hSw
    try dsimp only at hSw
    obtain ⟨s0, s1, s2⟩ := hSw
    have s20 := (blk_cell s2 0).trans (show _ = some (.int .i64 F.p) from rfl)
    have s21 := (blk_cell s2 1).trans (show _ = some (.int .i64 F.f) from rfl)
    have s22 := (blk_cell s2 2).trans (show _ = some (.slice X2 F.ws.length Xc2) from rfl)
    have s23 := (blk_cell s2 3).trans (show _ = some (.slice X3 F.ks.length Xc3) from rfl)
    have s24 := (blk_cell s2 4).trans (show _ = some (.slice X4 F.ac.length Xc4) from rfl)
    clear s0 s1 s2
    go_simp
    try with_reducible rfl
  try simp only [Act.put, List.setIfInBounds_toArray, List.set_cons_zero, List.set_cons_succ]
  refine OrdU.wpAnyU_take (i := 9) (v := ?u9) rfl (by kernel_rfl) (by kernel_rfl) (by kernel_rfl) (by kernel_rfl) (fun _ _ _ h => h) (Or.inl ⟨by rfl, ?ky9⟩) ⟨T.out.1, T.out.2.1, T.out.2.2.1⟩ ?sest9
  case ky9 =>
    intro w1 hSw
    try dsimp only at hSw
    obtain ⟨s0, s1, s2⟩ := hSw
    have s00 := (blk_cell s0 0).trans (show _ = some (.int .i64 F.p) from rfl)
    have s01 := (blk_cell s0 1).trans (show _ = some (.int .i64 F.f) from rfl)
    have s02 := (blk_cell s0 2).trans (show _ = some (.slice A2 F.ws.length Ac2) from rfl)
    have s03 := (blk_cell s0 3).trans (show _ = some (.slice A3 F.ks.length Ac3) from rfl)
    have s04 := (blk_cell s0 4).trans (show _ = some (.slice A4 F.ac.length Ac4) from rfl)
    clear s0 s1 s2
    go_simp
    try with_reducible rfl
  try simp only [Act.put, List.setIfInBounds_toArray, List.set_cons_zero, List.set_cons_succ]
  refine OrdU.wpAnyU_one (i := 10) (by kernel_rfl) rfl (fun K' hK => ?_)
  go_simp
  go_wp2_with (first | (go_at_call 14; refine (HRX.out _ T.out.2.2.2.2 (EF.out.below T.out.2.2.2.1)).mono ?_; rintro e w10 ⟨rfl, hb⟩; replace T := Aside0.mk (show _ from And.intro (blk_below T.out.1 hb) (And.intro (blk_below T.out.2.1 hb) (And.intro (blk_below T.out.2.2.1 hb) (And.intro (below_step T.out.2.2.2.1 hb) (T.out.2.2.2.2.below hb))))); clear hb))
  refine hK.out _ _ (fun _ _ => ⟨T.out.1, T.out.2.1, T.out.2.2.1⟩) ?_
  clear hK
  try simp only [Act.put, List.setIfInBounds_toArray, List.set_cons_zero, List.set_cons_succ]
  refine OrdU.wpAnyU_takeW (i := 11) (v := ?u11) rfl (by kernel_rfl) (by kernel_rfl) (by kernel_rfl) (fun _ _ _ h => h) (Or.inl ⟨by rfl, ?ky11⟩) ?sest11
  case ky11 =>
    intro w1 hSw
    go_simp
    try with_reducible rfl
  try simp only [Act.put, List.setIfInBounds_toArray, List.set_cons_zero, List.set_cons_succ]
  refine OrdU.wpAnyU_takeW (i := 12) (v := ?u12) rfl (by kernel_rfl) (by kernel_rfl) (by kernel_rfl) (fun _ _ _ h => h) (Or.inl ⟨by rfl, ?ky12⟩) ?sest12
  case ky12 =>
    intro w1 hSw
    go_simp
    try with_reducible rfl
  try simp only [Act.put, List.setIfInBounds_toArray, List.set_cons_zero, List.set_cons_succ]
  refine OrdU.wpAnyU_takeW (i := 13) (v := ?u13) rfl (by kernel_rfl) (by kernel_rfl) (by kernel_rfl) (fun _ _ _ h => h) (Or.inl ⟨by rfl, ?ky13⟩) ?sest13
  case ky13 =>
    intro w1 hSw
    go_simp
    try with_reducible rfl
  try simp only [Act.put, List.setIfInBounds_toArray, List.set_cons_zero, List.set_cons_succ]
  refine OrdU.wpAnyU_take (i := 14) (v := ?u14) rfl (by kernel_rfl) (by kernel_rfl) (by kernel_rfl) (by kernel_rfl) (fun _ _ _ h => h) (Or.inl ⟨by rfl, ?ky14⟩) ⟨T.out.1, T.out.2.1, T.out.2.2.1⟩ ?sest14
  case ky14 =>
    intro w1 hSw
    try dsimp only at hSw
    obtain ⟨s0, s1, s2⟩ := hSw
    have s00 := (blk_cell s0 0).trans (show _ = some (.int .i64 F.p) from rfl)
    have s01 := (blk_cell s0 1).trans (show _ = some (.int .i64 F.f) from rfl)
    have s02 := (blk_cell s0 2).trans (show _ = some (.slice A2 F.ws.length Ac2) from rfl)
    have s03 := (blk_cell s0 3).trans (show _ = some (.slice A3 F.ks.length Ac3) from rfl)
    have s04 := (blk_cell s0 4).trans (show _ = some (.slice A4 F.ac.length Ac4) from rfl)
    clear s0 s1 s2
    go_simp
    try with_reducible rfl
  try simp only [Act.put, List.setIfInBounds_toArray, List.set_cons_zero, List.set_cons_succ]
  refine OrdU.wpAnyU_take (i := 15) (v := ?u15) rfl (by kernel_rfl) (by kernel_rfl) (by kernel_rfl) (by kernel_rfl) (fun _ _ _ h => h) (Or.inl ⟨by rfl, ?ky15⟩) ⟨T.out.1, T.out.2.1, T.out.2.2.1⟩ ?sest15
  case ky15 =>
    intro w1 hSw
    try dsimp only at hSw
    obtain ⟨s0, s1, s2⟩ := hSw
    have s00 := (blk_cell s0 0).trans (show _ = some (.int .i64 F.p) from rfl)
    have s01 := (blk_cell s0 1).trans (show _ = some (.int .i64 F.f) from rfl)
    have s02 := (blk_cell s0 2).trans (show _ = some (.slice A2 F.ws.length Ac2) from rfl)
    have s03 := (blk_cell s0 3).trans (show _ = some (.slice A3 F.ks.length Ac3) from rfl)
    have s04 := (blk_cell s0 4).trans (show _ = some (.slice A4 F.ac.length Ac4) from rfl)
    clear s0 s1 s2
    go_simp
    try with_reducible rfl
  try simp only [Act.put, List.setIfInBounds_toArray, List.set_cons_zero, List.set_cons_succ]
  refine OrdU.wpAnyU_one (i := 16) (by kernel_rfl) rfl (fun K' hK => ?_)
  go_simp
  go_wp2_with (first | (go_at_call 13; refine (HSA.out _ (EF.out.below T.out.2.2.2.1)).mono ?_; rintro e w11 ⟨rfl, hb⟩; replace T := Aside0.mk (show _ from And.intro (blk_below T.out.1 hb) (And.intro (blk_below T.out.2.1 hb) (And.intro (blk_below T.out.2.2.1 hb) (And.intro (below_step T.out.2.2.2.1 hb) (T.out.2.2.2.2.below hb))))); clear hb))
  refine hK.out _ _ (fun _ _ => ⟨T.out.1, T.out.2.1, T.out.2.2.1⟩) ?_
  clear hK
  try simp only [Act.put, List.setIfInBounds_toArray, List.set_cons_zero, List.set_cons_succ]
  refine OrdU.wpAnyU_takeW (i := 17) (v := ?u17) rfl (by kernel_rfl) (by kernel_rfl) (by kernel_rfl) (fun _ _ _ h => h) (Or.inl ⟨by rfl, ?ky17⟩) ?sest17
  case ky17 =>
    intro w1 hSw
    go_simp
    try with_reducible rfl
  try simp only [Act.put, List.setIfInBounds_toArray, List.set_cons_zero, List.set_cons_succ]
  refine OrdU.wpAnyU_takeW (i := 18) (v := ?u18) rfl (by kernel_rfl) (by kernel_rfl) (by kernel_rfl) (fun _ _ _ h => h) (Or.inl ⟨by rfl, ?ky18⟩) ?sest18
  case ky18 =>
    intro w1 hSw
    go_simp
    try with_reducible rfl
  try simp only [Act.put, List.setIfInBounds_toArray, List.set_cons_zero, List.set_cons_succ]
  refine OrdU.wpAnyU_done (by kernel_rfl) ?_ _
  have z0 := T.out.1
  have z00 := (blk_cell z0 0).trans (show _ = some (.int .i64 F.p) from rfl)
  have z01 := (blk_cell z0 1).trans (show _ = some (.int .i64 F.f) from rfl)
  have z02 := (blk_cell z0 2).trans (show _ = some (.slice A2 F.ws.length Ac2) from rfl)
  have z03 := (blk_cell z0 3).trans (show _ = some (.slice A3 F.ks.length Ac3) from rfl)
  have z04 := (blk_cell z0 4).trans (show _ = some (.slice A4 F.ac.length Ac4) from rfl)
  clear z0 HRX HSA hrr
  go_wp2_with (first | (go_at_call 9; refine (clone_any (EF.out.below T.out.2.2.2.1) (by omega) (by omega) (by omega)).mono ?_; rintro e w12 ⟨Y2, Yc2, Y3, Yc3, Y4, Yc4, rfl, hy⟩; have HY := Aside0.mk hy; clear hy))
  have yv : YV w11 (w12.alloc (.cells #[.int .i64 F.p, .int .i64 F.f, .slice Y2 F.ws.length Yc2, .slice Y3 F.ks.length Yc3, .slice Y4 F.ac.length Yc4] 26)) w12.heap.size #[.int .i64 F.p, .int .i64 F.f, .slice Y2 F.ws.length Yc2, .slice Y3 F.ks.length Yc3, .slice Y4 F.ac.length Yc4] Y2 Y3 Y4 (F.ws.length * 3) (F.ks.length * 11) (F.ac.length * 1) := ⟨below_alloc HY.out.o2.bel _, blk_new _ _, (yb33 HY.out.o2).below (below_alloc (Below.refl _ _) _), (yb35 HY.out.o3).below (below_alloc (Below.refl _ _) _), (yb3 HY.out.o4).below (below_alloc (Below.refl _ _) _)⟩
  clear HY z00 z01 z02 z03 z04
  revert yv
  generalize (w12.alloc (.cells #[.int .i64 F.p, .int .i64 F.f, .slice Y2 F.ws.length Yc2, .slice Y3 F.ks.length Yc3, .slice Y4 F.ac.length Yc4] 26)) = w13
  generalize w12.heap.size = g6
  intro yv
  replace yv := Aside0.mk yv
  go_loopw [7] (fun v7 wr => ∃ i : Nat, i ≤ F.ws.length ∧ v7 = .int .i64 i ∧ Aside0 (YV w11 wr g6 #[.int .i64 F.p, .int .i64 F.f, .slice Y2 F.ws.length Yc2, .slice Y3 F.ks.length Yc3, .slice Y4 F.ac.length Yc4] Y2 Y3 Y4 (F.ws.length * 3) (F.ks.length * 11) (F.ac.length * 1))) (fun v7 _ => F.ws.length - (intOf v7).toNat)
  case atStart => exact ⟨0, by omega, rfl, yv⟩
  case round =>
    obtain ⟨i, hi, rfl, HV⟩ := hrel
    have bb := HV.out.b6
    have bb0 := (blk_cell bb 0).trans (show _ = some (.int .i64 F.p) from rfl)
    have bb1 := (blk_cell bb 1).trans (show _ = some (.int .i64 F.f) from rfl)
    have bb2 := (blk_cell bb 2).trans (show _ = some (.slice Y2 F.ws.length Yc2) from rfl)
    have bb3 := (blk_cell bb 3).trans (show _ = some (.slice Y3 F.ks.length Yc3) from rfl)
    have bb4 := (blk_cell bb 4).trans (show _ = some (.slice Y4 F.ac.length Yc4) from rfl)
    clear bb
    by_cases hlt : i < F.ws.length
    · have d1 : decide ((i : Int) < (F.ws.length : Int)) = true := decide_eq_true (by omega)
      have d1n : decide (i < F.ws.length) = true := decide_eq_true hlt
      obtain ⟨g, z, rfl, hge, hcell, hfr, cur, hcur⟩ := HV.out.y2.at_ (j := i * 3 + 2) (by omega)
      have hi0 : 0 ≤ (i : Int) := by omega
      have hi1 : (i : Int) < F.ws.length := by omega
      go_wp2
      go_roundw
      case rel => exact ⟨i + 1, by omega, by go_num, ⟨HV.out.put2 hcur hge _ _⟩⟩
      case measure => simp [intOf]; omega
    · have d1 : decide ((i : Int) < (F.ws.length : Int)) = false := decide_eq_false (by omega)
      have d1n : decide (i < F.ws.length) = false := decide_eq_false hlt
      go_wp2
      clear d1 d1n hlt hi bb0 bb1 bb2 bb3 bb4
      go_loopw [8] (fun v7 wr => ∃ i : Nat, i ≤ F.ks.length ∧ v7 = .int .i64 i ∧ Aside0 (YV w11 wr g6 #[.int .i64 F.p, .int .i64 F.f, .slice Y2 F.ws.length Yc2, .slice Y3 F.ks.length Yc3, .slice Y4 F.ac.length Yc4] Y2 Y3 Y4 (F.ws.length * 3) (F.ks.length * 11) (F.ac.length * 1))) (fun v7 _ => F.ks.length - (intOf v7).toNat)
      case atStart => exact ⟨0, by omega, rfl, HV⟩
      case round =>
        obtain ⟨i, hi, rfl, HV⟩ := hrel
        have bb := HV.out.b6
        have bb0 := (blk_cell bb 0).trans (show _ = some (.int .i64 F.p) from rfl)
        have bb1 := (blk_cell bb 1).trans (show _ = some (.int .i64 F.f) from rfl)
        have bb2 := (blk_cell bb 2).trans (show _ = some (.slice Y2 F.ws.length Yc2) from rfl)
        have bb3 := (blk_cell bb 3).trans (show _ = some (.slice Y3 F.ks.length Yc3) from rfl)
        have bb4 := (blk_cell bb 4).trans (show _ = some (.slice Y4 F.ac.length Yc4) from rfl)
        clear bb
        by_cases hlt : i < F.ks.length
        · have d1 : decide ((i : Int) < (F.ks.length : Int)) = true := decide_eq_true (by omega)
          have d1n : decide (i < F.ks.length) = true := decide_eq_true hlt
          obtain ⟨g, z, rfl, hge, hcell, hfr, cur, hcur⟩ := HV.out.y3.at_ (j := i * 11) (by omega)
          have hi0 : 0 ≤ (i : Int) := by omega
          have hi1 : (i : Int) < F.ks.length := by omega
          go_wp2
          go_roundw
          case rel => exact ⟨i + 1, by omega, by go_num, ⟨HV.out.put3 hcur hge _ _⟩⟩
          case measure => simp [intOf]; omega
        · have d1 : decide ((i : Int) < (F.ks.length : Int)) = false := decide_eq_false (by omega)
          have d1n : decide (i < F.ks.length) = false := decide_eq_false hlt
          go_wp2
          clear d1 d1n hlt hi bb0 bb1 bb2 bb3 bb4
          go_loopw [9] (fun v7 wr => ∃ i : Nat, i ≤ F.ac.length ∧ v7 = .int .i64 i ∧ Aside0 (YV w11 wr g6 #[.int .i64 F.p, .int .i64 F.f, .slice Y2 F.ws.length Yc2, .slice Y3 F.ks.length Yc3, .slice Y4 F.ac.length Yc4] Y2 Y3 Y4 (F.ws.length * 3) (F.ks.length * 11) (F.ac.length * 1))) (fun v7 _ => F.ac.length - (intOf v7).toNat)
          case atStart => exact ⟨0, by omega, rfl, HV⟩
          case round =>
            obtain ⟨i, hi, rfl, HV⟩ := hrel
            have bb := HV.out.b6
            have bb0 := (blk_cell bb 0).trans (show _ = some (.int .i64 F.p) from rfl)
            have bb1 := (blk_cell bb 1).trans (show _ = some (.int .i64 F.f) from rfl)
            have bb2 := (blk_cell bb 2).trans (show _ = some (.slice Y2 F.ws.length Yc2) from rfl)
            have bb3 := (blk_cell bb 3).trans (show _ = some (.slice Y3 F.ks.length Yc3) from rfl)
            have bb4 := (blk_cell bb 4).trans (show _ = some (.slice Y4 F.ac.length Yc4) from rfl)
            clear bb
            by_cases hlt : i < F.ac.length
            · have d1 : decide ((i : Int) < (F.ac.length : Int)) = true := decide_eq_true (by omega)
              have d1n : decide (i < F.ac.length) = true := decide_eq_true hlt
              obtain ⟨g, z, rfl, hge, hcell, hfr, cur, hcur⟩ := HV.out.y4.at_ (j := i) (by omega)
              have hi0 : 0 ≤ (i : Int) := by omega
              have hi1 : (i : Int) < F.ac.length := by omega
              go_wp2
              go_roundw
              case rel => exact ⟨i + 1, by omega, by go_num, ⟨HV.out.put4 hcur hge _ _⟩⟩
              case measure => simp [intOf]; omega
            · have d1 : decide ((i : Int) < (F.ac.length : Int)) = false := decide_eq_false (by omega)
              have d1n : decide (i < F.ac.length) = false := decide_eq_false hlt
              have s0 := blk_below T.out.1 HV.out.bel
              have s2 := blk_below T.out.2.2.1 HV.out.bel
              have s00 := (blk_cell s0 0).trans (show _ = some (.int .i64 F.p) from rfl)
              have s01 := (blk_cell s0 1).trans (show _ = some (.int .i64 F.f) from rfl)
              have s02 := (blk_cell s0 2).trans (show _ = some (.slice A2 F.ws.length Ac2) from rfl)
              have s03 := (blk_cell s0 3).trans (show _ = some (.slice A3 F.ks.length Ac3) from rfl)
              have s04 := (blk_cell s0 4).trans (show _ = some (.slice A4 F.ac.length Ac4) from rfl)
              have s20 := (blk_cell s2 0).trans (show _ = some (.int .i64 F.p) from rfl)
              have s21 := (blk_cell s2 1).trans (show _ = some (.int .i64 F.f) from rfl)
              have s22 := (blk_cell s2 2).trans (show _ = some (.slice X2 F.ws.length Xc2) from rfl)
              have s23 := (blk_cell s2 3).trans (show _ = some (.slice X3 F.ks.length Xc3) from rfl)
              have s24 := (blk_cell s2 4).trans (show _ = some (.slice X4 F.ac.length Xc4) from rfl)
              clear s0 s2
              have HBL := Aside0.mk (below_step T.out.2.2.2.1 HV.out.bel)
              have HFIN := Aside0.mk (rsame_any (T.out.2.2.2.2.below HV.out.bel) (EF.out.below HBL.out) (by omega) (by omega) (by omega))
              rw [sB_refl] at HFIN
              go_wp2_with (first | (go_at_call 14; refine HFIN.out.mono ?_; rintro e w14 ⟨rfl, hb⟩; have HLAST := Aside0.mk (below_step HBL.out hb); clear hb))
              go_ret
              exact ⟨rfl, HLAST.out⟩
end Go.Proofs.YtehcgojcmcahnaaDoor.Cf
