/- WindowOdd: the walk. -/
import Derived.Test.YtmmkbgilcggkkaaDoorWp
import Derived.Test.YtmmkbgilcggkkaaDoorGw
import Derived.Test.YtmmkbgilcggkkaaDoorFew
import Derived.Deep.RegionHeld3
set_option linter.unusedVariables false
set_option linter.unusedSimpArgs false
namespace Go.Proofs.YtmmkbgilcggkkaaDoor.Wn
open Go Go.RowKit Go.Shelf Go.Proofs.YtmmkbgilcggkkaaDoorW.PrintWords Go.Proofs.YtmmkbgilcggkkaaDoorW.PrintLast Go.Proofs.YtmmkbgilcggkkaaDoorW.PrintMore Go.Proofs.YtmmkbgilcggkkaaDoor.Cz Go.Proofs.YtmmkbgilcggkkaaDoor.PWindowCalls Go.Proofs.YtmmkbgilcggkkaaDoor.Cf Go.Proofs.YtmmkbgilcggkkaaDoor.Sat
attribute [local go_sem] max2_int min2_int max_two min_two max_three min_three max_four min_four Tryd.underlying26 Tryd.underlying41 Tryd.underlying37
theorem odd_ok (p f : Int) (ks : List S37) (ac : List Int) : okB ⟨p, f, [], ks, ac⟩ = false := by
  cases h : okB ⟨p, f, [], ks, ac⟩
  · rfl
  · have := (ok_hd h).2.2.1
    simp at this
theorem no_phs {C : Cfg} (h : okB C = false) (o : Int) : phs C o = [] := by unfold phs; rw [h]; rfl
theorem no_who {C : Cfg} (h : okB C = false) (now : Int) : whoN C now = none := by unfold whoN; rw [h]; rfl
theorem no_serves {C : Cfg} (h : okB C = false) (now : Int) : servesN C now = none := by unfold servesN; rw [no_who h, if_neg (by intro h; cases h)]
theorem no_below {C : Cfg} (h : okB C = false) (o ph : Int) : belowN C o ph = 0 := by unfold belowN; rw [no_phs h]; rfl
theorem no_count {C : Cfg} (h : okB C = false) (o : Int) : countN C o = 0 := no_below h o 64
theorem no_before {C : Cfg} (h : okB C = false) (o now : Int) : beforeN C o now = 0 := by
  unfold beforeN
  rw [no_count h, no_below h]
  have h1 := cut_bd (cut now / fr C.f)
  have h2 : tmul (cut now / fr C.f) 0 = 0 := by
    unfold tmul
    rw [show cut 0 = 0 from by decide, Int.mul_zero]
    decide
  rw [h2]
  decide
theorem no_until {C : Cfg} (h : okB C = false) (o now : Int) : untilN C o now = -1 := by unfold untilN; rw [no_phs h]; rfl
theorem no_nth {C : Cfg} (h : okB C = false) (o m : Int) : nthN C o m = -1 := by unfold nthN; rw [no_count h, if_pos rfl]
set_option maxHeartbeats 16000000 in
set_option maxRecDepth 100000 in
theorem windowOdd_any (owner : Int) (now : Int) {C : Cfg} {A2 A3 A4 : Option Addr} {Ac2 Ac3 Ac4 : Nat} {w : World} (h : CX w C A2 Ac2 A3 Ac3 A4 Ac4)
    (l2 : C.ws.length ≤ maxLen) (l3 : C.ks.length ≤ maxLen) (l4 : C.ac.length ≤ maxLen) (hg : LG w) :
    Calls Tryd.prog 9 #[.agg #[.int .i64 C.p, .int .i64 C.f, .slice A2 C.ws.length Ac2, .slice A3 C.ks.length Ac3, .slice A4 C.ac.length Ac4], .int .i64 owner, .int .i64 now] w fun e w' => e = .returned (.bool true) ∧ Below w.heap.size w w' := by
  have FA := Aside0.mk (fun w1 (hb : Below w.heap.size w w1) => few_any (h.below hb) l2 l3 l4)
  have HXD := Aside0.mk h.few
  have HG := Aside0.mk hg
  have B1 := Aside0.mk (And.intro (blk_new w (.cells #[.int .i64 C.p, .int .i64 C.f, .slice A2 C.ws.length Ac2, .slice A3 C.ks.length Ac3, .slice A4 C.ac.length Ac4] 26)) (below_alloc (Below.refl w.heap.size w) (.cells #[.int .i64 C.p, .int .i64 C.f, .slice A2 C.ws.length Ac2, .slice A3 C.ks.length Ac3, .slice A4 C.ac.length Ac4] 26)))
  clear h l2 l3 l4 hg
  generalize fewC C = D at FA HXD
  go_enter Tryd.func9, Tryd.ntmps9
  go_upto_region 3 with (first | (go_at_call 10; refine (lives_any (HG.out.below B1.out.2)).mono ?_; rintro e w2 ⟨rfl, hb⟩; have B2_ := Aside0.mk (And.intro (blk_below B1.out.1 hb) (below_step B1.out.2 hb)); clear hb))
  have s0 := (blk_cell B2_.out.1 0).trans (show _ = some (.int .i64 C.p) from rfl)
  have s1 := (blk_cell B2_.out.1 1).trans (show _ = some (.int .i64 C.f) from rfl)
  have s2 := (blk_cell B2_.out.1 2).trans (show _ = some (.slice A2 C.ws.length Ac2) from rfl)
  have s3 := (blk_cell B2_.out.1 3).trans (show _ = some (.slice A3 C.ks.length Ac3) from rfl)
  have s4 := (blk_cell B2_.out.1 4).trans (show _ = some (.slice A4 C.ac.length Ac4) from rfl)
  clear B1
  go_upto_region 4 with (first | (go_at_call 12; refine (FA.out _ B2_.out.2).mono ?_; rintro e w3 ⟨rfl, hb⟩; have B3 := Aside0.mk (below_step B2_.out.2 hb); clear hb) | (go_at_call 11; refine (good_any (HXD.out.below B3.out)).mono ?_; rintro e w5 ⟨G, X2, Xc2, X3, Xc3, X4, Xc4, hG, rfl, hx, hb⟩; have HX := Aside0.mk hx; have B5 := Aside0.mk (below_step B3.out hb); have HGG := Aside0.mk hG; clear hb hx hG))
  clear s0 s1 s2 s3 s4 B2_ B3 FA HXD
  have H6 : (w5.alloc (.cells #[.int .i64 G.p, .int .i64 G.f, .slice X2 G.ws.length Xc2, .slice X3 G.ks.length Xc3, .slice X4 G.ac.length Xc4] 26)).heap[w5.heap.size]? = some (.cells #[.int .i64 G.p, .int .i64 G.f, .slice X2 G.ws.length Xc2, .slice X3 G.ks.length Xc3, .slice X4 G.ac.length Xc4] 26 (0, 0)) ∧ Below w5.heap.size w5 (w5.alloc (.cells #[.int .i64 G.p, .int .i64 G.f, .slice X2 G.ws.length Xc2, .slice X3 G.ks.length Xc3, .slice X4 G.ac.length Xc4] 26)) := ⟨blk_new _ _, below_alloc (Below.refl _ _) _⟩
  have HG5 := Aside0.mk (HG.out.below B5.out)
  clear HG
  revert H6
  generalize (w5.alloc (.cells #[.int .i64 G.p, .int .i64 G.f, .slice X2 G.ws.length Xc2, .slice X3 G.ks.length Xc3, .slice X4 G.ac.length Xc4] 26)) = W6
  intro H6
  have g0 := (blk_cell H6.1 0).trans (show _ = some (.int .i64 G.p) from rfl)
  have g1 := (blk_cell H6.1 1).trans (show _ = some (.int .i64 G.f) from rfl)
  have g2 := (blk_cell H6.1 2).trans (show _ = some (.slice X2 G.ws.length Xc2) from rfl)
  have g3 := (blk_cell H6.1 3).trans (show _ = some (.slice X3 G.ks.length Xc3) from rfl)
  have g4 := (blk_cell H6.1 4).trans (show _ = some (.slice X4 G.ac.length Xc4) from rfl)
  have gf2 := blk_frozen H6.1 2
  have H6A := Aside0.mk H6
  clear H6
  go_upto_region 5 with (first | fail)
  have H7 : (W6.setCell ⟨w5.heap.size, 2, none⟩ (.slice none 0 0)).heap[w5.heap.size]? = some (.cells #[.int .i64 G.p, .int .i64 G.f, .slice none 0 0, .slice X3 G.ks.length Xc3, .slice X4 G.ac.length Xc4] 26 (0, 0)) ∧ Below w5.heap.size w5 (W6.setCell ⟨w5.heap.size, 2, none⟩ (.slice none 0 0)) := ⟨blk_put H6A.out.1 2 _ rfl, below_set H6A.out.2 (Nat.le_refl _)⟩
  clear g0 g1 g2 g3 g4 gf2 H6A
  revert H7
  generalize (W6.setCell ⟨w5.heap.size, 2, none⟩ (.slice none 0 0)) = W7
  intro H7
  have HXO : CX w5 ⟨G.p, G.f, [], G.ks, G.ac⟩ none 0 X3 Xc3 X4 Xc4 := ⟨Kd.C_nil _ _, Nat.le_refl _, HX.out.k, HX.out.kl, HX.out.a, HX.out.al⟩
  have k1 : G.ks.length ≤ 1000 := by have := HGG.out.k; omega
  have k2 : G.ac.length ≤ 1000 := by have := HGG.out.a; have := HGG.out.p; omega
  have k3 : ([] : List S41).length ≤ 1000 := by decide
  have hno := odd_ok G.p G.f G.ks G.ac
  have CW : Aside0 (∀ W : World, Below w5.heap.size w5 W → Calls Tryd.prog 14 #[.agg #[.int .i64 G.p, .int .i64 G.f, .slice none 0 0, .slice X3 G.ks.length Xc3, .slice X4 G.ac.length Xc4], .int .i64 now] W fun e w' => e = .returned (.tuple #[.int .i64 0, .bool false]) ∧ Below W.heap.size W w') := ⟨fun W hb => by
    have := whose_any (HXO.below hb) (HG5.out.below hb) k1 k2 k3 now
    rw [no_who hno] at this
    exact this⟩
  have CS : Aside0 (∀ W : World, Below w5.heap.size w5 W → Calls Tryd.prog 19 #[.agg #[.int .i64 G.p, .int .i64 G.f, .slice none 0 0, .slice X3 G.ks.length Xc3, .slice X4 G.ac.length Xc4], .int .i64 now] W fun e w' => e = .returned (.tuple #[.int .i64 0, .bool false]) ∧ Below W.heap.size W w') := ⟨fun W hb => by
    have := serves_any (HXO.below hb) (HG5.out.below hb) k1 k2 k3 now
    rw [no_serves hno] at this
    exact this⟩
  have CC : Aside0 (∀ W : World, Below w5.heap.size w5 W → Calls Tryd.prog 17 #[.agg #[.int .i64 G.p, .int .i64 G.f, .slice none 0 0, .slice X3 G.ks.length Xc3, .slice X4 G.ac.length Xc4], .int .i64 owner] W fun e w' => e = .returned (.int .i64 0) ∧ Below W.heap.size W w') := ⟨fun W hb => by
    have := count_any (HXO.below hb) (HG5.out.below hb) k1 k2 k3 owner
    rw [no_count hno] at this
    exact this⟩
  have CB : Aside0 (∀ W : World, Below w5.heap.size w5 W → Calls Tryd.prog 13 #[.agg #[.int .i64 G.p, .int .i64 G.f, .slice none 0 0, .slice X3 G.ks.length Xc3, .slice X4 G.ac.length Xc4], .int .i64 owner, .int .i64 now] W fun e w' => e = .returned (.int .i64 0) ∧ Below W.heap.size W w') := ⟨fun W hb => by
    have := before_any (HXO.below hb) (HG5.out.below hb) k1 k2 k3 owner now
    rw [no_before hno] at this
    exact this⟩
  have CU : Aside0 (∀ W : World, Below w5.heap.size w5 W → Calls Tryd.prog 16 #[.agg #[.int .i64 G.p, .int .i64 G.f, .slice none 0 0, .slice X3 G.ks.length Xc3, .slice X4 G.ac.length Xc4], .int .i64 owner, .int .i64 now] W fun e w' => e = .returned (.int .i64 (-1)) ∧ Below W.heap.size W w') := ⟨fun W hb => by
    have := until_any (HXO.below hb) (HG5.out.below hb) k1 k2 k3 owner now
    rw [no_until hno] at this
    exact this⟩
  have CN : Aside0 (∀ W : World, Below w5.heap.size w5 W → Calls Tryd.prog 15 #[.agg #[.int .i64 G.p, .int .i64 G.f, .slice none 0 0, .slice X3 G.ks.length Xc3, .slice X4 G.ac.length Xc4], .int .i64 owner, .int .i64 now] W fun e w' => e = .returned (.int .i64 (-1)) ∧ Below W.heap.size W w') := ⟨fun W hb => by
    have := nth_any (HXO.below hb) (HG5.out.below hb) k1 k2 k3 owner now
    rw [no_nth hno] at this
    exact this⟩
  clear HXO k1 k2 k3 hno HX HGG
  have g0 := (blk_cell H7.1 0).trans (show _ = some (.int .i64 G.p) from rfl)
  have g1 := (blk_cell H7.1 1).trans (show _ = some (.int .i64 G.f) from rfl)
  have g2 := (blk_cell H7.1 2).trans (show _ = some (.slice none 0 0) from rfl)
  have g3 := (blk_cell H7.1 3).trans (show _ = some (.slice X3 G.ks.length Xc3) from rfl)
  have g4 := (blk_cell H7.1 4).trans (show _ = some (.slice X4 G.ac.length Xc4) from rfl)
  have H7A := Aside0.mk H7
  clear H7
  go_upto_region 6 with (first | (go_at_call 14; (with_reducible refine (CW.out _ H7A.out.2).mono ?_); rintro e w8 ⟨rfl, hb⟩; have H8 := Aside0.mk (And.intro (blk_below H7A.out.1 hb) (below_step H7A.out.2 hb)); clear hb g0 g1 g2 g3 g4; have g0 := (blk_cell H8.out.1 0).trans (show _ = some (.int .i64 G.p) from rfl); have g1 := (blk_cell H8.out.1 1).trans (show _ = some (.int .i64 G.f) from rfl); have g2 := (blk_cell H8.out.1 2).trans (show _ = some (.slice none 0 0) from rfl); have g3 := (blk_cell H8.out.1 3).trans (show _ = some (.slice X3 G.ks.length Xc3) from rfl); have g4 := (blk_cell H8.out.1 4).trans (show _ = some (.slice X4 G.ac.length Xc4) from rfl)))
  go_upto_region 7 with (first | (go_at_call 19; (with_reducible refine (CS.out _ H8.out.2).mono ?_); rintro e w9 ⟨rfl, hb⟩; have H9 := Aside0.mk (And.intro (blk_below H8.out.1 hb) (below_step H8.out.2 hb)); clear hb g0 g1 g2 g3 g4))
  have g0 := (blk_cell H9.out.1 0).trans (show _ = some (.int .i64 G.p) from rfl)
  have g1 := (blk_cell H9.out.1 1).trans (show _ = some (.int .i64 G.f) from rfl)
  have g2 := (blk_cell H9.out.1 2).trans (show _ = some (.slice none 0 0) from rfl)
  have g3 := (blk_cell H9.out.1 3).trans (show _ = some (.slice X3 G.ks.length Xc3) from rfl)
  have g4 := (blk_cell H9.out.1 4).trans (show _ = some (.slice X4 G.ac.length Xc4) from rfl)
  have TS := Aside0.mk (fun (W : World) (hb : Below w9.heap.size w9 W) => And.intro (cell_b g0 hb) (And.intro (cell_b g1 hb) (And.intro (cell_b g2 hb) (And.intro (cell_b g3 hb) (cell_b g4 hb)))))
  have HB := Aside0.mk (below_drew (Below.refl w9.heap.size w9))
  go_region_held3 (fun w' => w'.cell? ⟨w5.heap.size, 0, none⟩ = some (.int .i64 G.p) ∧ w'.cell? ⟨w5.heap.size, 1, none⟩ = some (.int .i64 G.f) ∧ w'.cell? ⟨w5.heap.size, 2, none⟩ = some (.slice none 0 0) ∧ w'.cell? ⟨w5.heap.size, 3, none⟩ = some (.slice X3 G.ks.length Xc3) ∧ w'.cell? ⟨w5.heap.size, 4, none⟩ = some (.slice X4 G.ac.length Xc4)) (first | exact TS.out _ HB.out | exact TS.out _ (below_drew (Below.refl _ _)) | go_keep) (first | (go_at_call 17; (with_reducible refine (CC.out _ (below_step H9.out.2 HB.out)).mono ?_); rintro e w10 ⟨rfl, hb⟩; have HBn := Aside0.mk (below_step HB.out hb); clear HB; have HB := HBn; clear HBn; clear hb) | (go_at_call 13; (with_reducible refine (CB.out _ (below_step H9.out.2 HB.out)).mono ?_); rintro e w10 ⟨rfl, hb⟩; have HBn := Aside0.mk (below_step HB.out hb); clear HB; have HB := HBn; clear HBn; clear hb) | (go_at_call 16; (with_reducible refine (CU.out _ (below_step H9.out.2 HB.out)).mono ?_); rintro e w10 ⟨rfl, hb⟩; have HBn := Aside0.mk (below_step HB.out hb); clear HB; have HB := HBn; clear HBn; clear hb) | (go_at_call 15; (with_reducible refine (CN.out _ (below_step H9.out.2 HB.out)).mono ?_); rintro e w10 ⟨rfl, hb⟩; have HBn := Aside0.mk (below_step HB.out hb); clear HB; have HB := HBn; clear HBn; clear hb))
  all_goals
    go_wp2
    go_ret
    exact ⟨rfl, below_step B5.out (below_step H9.out.2 HB.out)⟩
end Go.Proofs.YtmmkbgilcggkkaaDoor.Wn
