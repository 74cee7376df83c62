/- BoundMost: the walk. -/
import Derived.Test.YtcebmgndniejcaaDoorBm
import Derived.Test.YtcebmgndniejcaaDoorBp
import Derived.Test.YtcebmgndniejcaaDoorGw
import Derived.Test.YtcebmgndniejcaaDoorFew
import Derived.Deep.RegionHeld3
set_option linter.unusedVariables false
set_option linter.unusedSimpArgs false
namespace Go.Proofs.YtcebmgndniejcaaDoor.Wn
open Go Go.RowKit Go.Shelf Go.Proofs.YtcebmgndniejcaaDoorW.PrintWords Go.Proofs.YtcebmgndniejcaaDoorW.PrintLast Go.Proofs.YtcebmgndniejcaaDoorW.PrintMore Go.Proofs.YtcebmgndniejcaaDoor.Cz Go.Proofs.YtcebmgndniejcaaDoor.PBoundWaits Go.Proofs.YtcebmgndniejcaaDoor.Cf Go.Proofs.YtcebmgndniejcaaDoor.Sat
attribute [local go_sem] max2_int min2_int max_two min_two max_three min_three max_four min_four Tryd.underlying26 Tryd.underlying41 Tryd.underlying43
set_option maxHeartbeats 16000000 in
set_option maxRecDepth 100000 in
theorem boundMost_any (x0 : Int) (x1 : Int) (x2 : Int) {C : Cfg} {A2 A3 A4 : Option Addr} {Ac2 Ac3 Ac4 : Nat} {w : World} (h : CX w C A2 Ac2 A3 Ac3 A4 Ac4)
    (l2 : C.ws.length ≤ maxLen) (l3 : C.ks.length ≤ maxLen) (l4 : C.ac.length ≤ maxLen) (hg : LG w) :
    Calls Tryd.prog 7 #[.agg #[.int .i64 C.p, .int .i64 C.f, .slice A2 C.ws.length Ac2, .slice A3 C.ks.length Ac3, .slice A4 C.ac.length Ac4], .agg #[.int .i64 x0, .int .i64 x1, .int .i64 x2]] w fun e w' => e = .returned (.bool true) ∧ Below w.heap.size w w' := by
  have FA := Aside0.mk (fun w1 (hb : Below w.heap.size w w1) => few_any (h.below hb) l2 l3 l4)
  have HXD := Aside0.mk h.few
  have HG := Aside0.mk hg
  have B1 := Aside0.mk (show ((w.alloc (.cells #[.int .i64 C.p, .int .i64 C.f, .slice A2 C.ws.length Ac2, .slice A3 C.ks.length Ac3, .slice A4 C.ac.length Ac4] 26)).alloc (.cells #[.int .i64 x0, .int .i64 x1, .int .i64 x2] 27)).heap[w.heap.size]? = some (.cells #[.int .i64 C.p, .int .i64 C.f, .slice A2 C.ws.length Ac2, .slice A3 C.ks.length Ac3, .slice A4 C.ac.length Ac4] 26 (0, 0)) ∧ Below w.heap.size w ((w.alloc (.cells #[.int .i64 C.p, .int .i64 C.f, .slice A2 C.ws.length Ac2, .slice A3 C.ks.length Ac3, .slice A4 C.ac.length Ac4] 26)).alloc (.cells #[.int .i64 x0, .int .i64 x1, .int .i64 x2] 27)) from ⟨blk_alloc (blk_new w _) _, below_alloc (below_alloc (Below.refl _ _) _) _⟩)
  have HAR := Aside0.mk (show ((w.alloc (.cells #[.int .i64 C.p, .int .i64 C.f, .slice A2 C.ws.length Ac2, .slice A3 C.ks.length Ac3, .slice A4 C.ac.length Ac4] 26)).alloc (.cells #[.int .i64 x0, .int .i64 x1, .int .i64 x2] 27)).heap[w.heap.size + 1]? = some (.cells #[.int .i64 x0, .int .i64 x1, .int .i64 x2] 27 (0, 0)) by have := blk_new (w.alloc (.cells #[.int .i64 C.p, .int .i64 C.f, .slice A2 C.ws.length Ac2, .slice A3 C.ks.length Ac3, .slice A4 C.ac.length Ac4] 26)) (.cells #[.int .i64 x0, .int .i64 x1, .int .i64 x2] 27); rw [World.size_alloc] at this; exact this)
  clear h l2 l3 l4 hg
  generalize fewC C = D at FA HXD
  go_enter Tryd.func7, Tryd.ntmps7
  go_upto_region 3 with (first | (go_at_call 8; refine (lives_any (HG.out.below B1.out.2)).mono ?_; rintro e w2 ⟨rfl, hb⟩; have B2_ := Aside0.mk (And.intro (blk_below B1.out.1 hb) (below_step B1.out.2 hb)); have HARn := Aside0.mk (blk_below HAR.out hb); clear HAR; have HAR := HARn; clear HARn; clear hb))
  have s0 := (blk_cell B2_.out.1 0).trans (show _ = some (.int .i64 C.p) from rfl)
  have s1 := (blk_cell B2_.out.1 1).trans (show _ = some (.int .i64 C.f) from rfl)
  have s2 := (blk_cell B2_.out.1 2).trans (show _ = some (.slice A2 C.ws.length Ac2) from rfl)
  have s3 := (blk_cell B2_.out.1 3).trans (show _ = some (.slice A3 C.ks.length Ac3) from rfl)
  have s4 := (blk_cell B2_.out.1 4).trans (show _ = some (.slice A4 C.ac.length Ac4) from rfl)
  clear B1
  go_upto_region 4 with (first | (go_at_call 9; refine (FA.out _ B2_.out.2).mono ?_; rintro e w3 ⟨rfl, hb⟩; have B3 := Aside0.mk (And.intro (blk_below B2_.out.1 hb) (below_step B2_.out.2 hb)); have HARn := Aside0.mk (blk_below HAR.out hb); clear HAR; have HAR := HARn; clear HARn; clear hb) | (go_at_call 10; refine (good_any (HXD.out.below B3.out.2)).mono ?_; rintro e w5 ⟨G, X2, Xc2, X3, Xc3, X4, Xc4, hG, rfl, hx, hb⟩; have HX := Aside0.mk hx; have B5 := Aside0.mk (And.intro (blk_below B3.out.1 hb) (below_step B3.out.2 hb)); have HGG := Aside0.mk hG; have HARn := Aside0.mk (blk_below HAR.out hb); clear HAR; have HAR := HARn; clear HARn; clear hb hx hG))
  clear s0 s1 s2 s3 s4 B2_ B3 FA HXD
  have H6 : GB w w5 (w5.alloc (.cells #[.int .i64 G.p, .int .i64 G.f, .slice X2 G.ws.length Xc2, .slice X3 G.ks.length Xc3, .slice X4 G.ac.length Xc4] 26)) #[.int .i64 G.p, .int .i64 G.f, .slice X2 G.ws.length Xc2, .slice X3 G.ks.length Xc3, .slice X4 G.ac.length Xc4] #[.int .i64 C.p, .int .i64 C.f, .slice A2 C.ws.length Ac2, .slice A3 C.ks.length Ac3, .slice A4 C.ac.length Ac4] := ⟨blk_new _ _, blk_alloc B5.out.1 _, below_alloc (Below.refl _ _) _, below_alloc B5.out.2 _⟩
  have HA6 : (w5.alloc (.cells #[.int .i64 G.p, .int .i64 G.f, .slice X2 G.ws.length Xc2, .slice X3 G.ks.length Xc3, .slice X4 G.ac.length Xc4] 26)).heap[w.heap.size + 1]? = some (.cells #[.int .i64 x0, .int .i64 x1, .int .i64 x2] 27 (0, 0)) := blk_alloc HAR.out _
  clear HAR
  have HG5 := Aside0.mk (HG.out.below B5.out.2)
  clear B5 HG
  revert H6 HA6
  generalize (w5.alloc (.cells #[.int .i64 G.p, .int .i64 G.f, .slice X2 G.ws.length Xc2, .slice X3 G.ks.length Xc3, .slice X4 G.ac.length Xc4] 26)) = W6
  intro H6 HA6
  have H6A := Aside0.mk H6
  clear H6
  have HAR := Aside0.mk HA6
  clear HA6
  have k1 : G.ks.length ≤ 1000 := by have := HGG.out.k; omega
  have k2 : G.ac.length ≤ 1000 := by have := HGG.out.a; have := HGG.out.p; omega
  have k3 : G.ws.length ≤ 1000 := by have := HGG.out.w; omega
  have HM := um x1 1000 (by decide) (by decide)
  obtain ⟨m, hm⟩ : ∃ m, wrap64 (Int.tmod (IntKind.u64.wrap x1) 1000) = m := ⟨_, rfl⟩
  rw [hm] at HM
  have hm0 : 0 ≤ m := by omega
  have hm1 : m < 1000 := by omega
  clear HM
  have HM := um x2 5 (by decide) (by decide)
  obtain ⟨n', hn⟩ : ∃ n', wrap64 (Int.tmod (IntKind.u64.wrap x2) 5) = n' := ⟨_, rfl⟩
  rw [hn] at HM
  obtain ⟨n, hnn⟩ : ∃ n, 1 + n' = n := ⟨_, rfl⟩
  have hn0 : 1 ≤ n := by omega
  have hn1 : n ≤ 5 := by omega
  clear HM
  have hnw : wrap64 (1 + n') = n := by rw [hnn]; exact w64_in (by omega) (by omega)
  obtain ⟨k, hk⟩ : ∃ k, wrap64 (Int.tmod (IntKind.u64.wrap x0) 6) = k := ⟨_, rfl⟩
  have hcy := good_cyc HGG.out
  have CY : Aside0 (∀ (W : World), Below w5.heap.size w5 W → Calls Tryd.prog 13 #[.agg #[.int .i64 G.p, .int .i64 G.f, .slice X2 G.ws.length Xc2, .slice X3 G.ks.length Xc3, .slice X4 G.ac.length Xc4]] W fun e w' => e = .returned (.int .i64 (cycN G)) ∧ Below W.heap.size W w') := ⟨fun  W hb => cycle_any (HX.out.below hb) (HG5.out.below hb) k1 k2 k3⟩
  have CV : Aside0 (∀ (t : Int) (W : World), Below w5.heap.size w5 W → Calls Tryd.prog 11 #[.agg #[.int .i64 G.p, .int .i64 G.f, .slice X2 G.ws.length Xc2, .slice X3 G.ks.length Xc3, .slice X4 G.ac.length Xc4], .int .i64 k, .int .i64 t, .int .i64 n] W fun e w' => e = .returned (.int .i64 (serveN G k t n)) ∧ Below W.heap.size W w') := ⟨fun t W hb => serve_any (HX.out.below hb) (HG5.out.below hb) k1 k2 k3 k t n⟩
  have CW1 : Aside0 (∀ (W : World), Below w5.heap.size w5 W → Calls Tryd.prog 17 #[.agg #[.int .i64 G.p, .int .i64 G.f, .slice X2 G.ws.length Xc2, .slice X3 G.ks.length Xc3, .slice X4 G.ac.length Xc4], .int .i64 k, .int .i64 n] W fun e w' => e = .returned (.int .i64 (waitN G k n)) ∧ Below W.heap.size W w') := ⟨fun  W hb => wait_any (HX.out.below hb) (HG5.out.below hb) k1 k2 k3 k n⟩
  have CW2 : Aside0 (∀ (W : World), Below w5.heap.size w5 W → Calls Tryd.prog 17 #[.agg #[.int .i64 G.p, .int .i64 G.f, .slice X2 G.ws.length Xc2, .slice X3 G.ks.length Xc3, .slice X4 G.ac.length Xc4], .int .i64 k, .int .i64 (n + 1)] W fun e w' => e = .returned (.int .i64 (waitN G k (n + 1))) ∧ Below W.heap.size W w') := ⟨fun  W hb => wait_any (HX.out.below hb) (HG5.out.below hb) k1 k2 k3 k (n + 1)⟩
  clear k1 k2 k3 HX HG5
  obtain ⟨_, _, _, hy0, hy1⟩ := hcy
  have hn2 : wrap64 (n + 1) = n + 1 := w64_in (by omega) (by omega)
  have hn2I : IntKind.i64.wrap (n + 1) = n + 1 := (IntWalk.i64_left _).trans hn2
  have g0 := (blk_cell H6A.out.g 0).trans (show _ = some (.int .i64 G.p) from rfl)
  have g1 := (blk_cell H6A.out.g 1).trans (show _ = some (.int .i64 G.f) from rfl)
  have g2 := (blk_cell H6A.out.g 2).trans (show _ = some (.slice X2 G.ws.length Xc2) from rfl)
  have g3 := (blk_cell H6A.out.g 3).trans (show _ = some (.slice X3 G.ks.length Xc3) from rfl)
  have g4 := (blk_cell H6A.out.g 4).trans (show _ = some (.slice X4 G.ac.length Xc4) from rfl)
  have a0 := (blk_cell HAR.out 0).trans (show _ = some (.int .i64 x0) from rfl)
  have a1 := (blk_cell HAR.out 1).trans (show _ = some (.int .i64 x1) from rfl)
  have a2 := (blk_cell HAR.out 2).trans (show _ = some (.int .i64 x2) from rfl)
  go_upto_region 5 with (first | fail)
  rw [hk]
  clear hk
  go_upto_region 6 with (first | fail)
  rw [hm]
  clear hm
  go_upto_region 7 with (first | fail)
  rw [hn]
  try rw [hnw]
  clear hn hnw hnn a0 a1 a2 HAR
  have CVm := Aside0.mk (CV.out m)
  go_upto_region 8 with (first | (go_at_call 17; (with_reducible refine (CW1.out _ H6A.out.h5).mono ?_); rintro e w7 ⟨rfl, hb⟩; have H7 := Aside0.mk (H6A.out.far hb); clear hb g0 g1 g2 g3 g4; have g0 := (blk_cell H7.out.g 0).trans (show _ = some (.int .i64 G.p) from rfl); have g1 := (blk_cell H7.out.g 1).trans (show _ = some (.int .i64 G.f) from rfl); have g2 := (blk_cell H7.out.g 2).trans (show _ = some (.slice X2 G.ws.length Xc2) from rfl); have g3 := (blk_cell H7.out.g 3).trans (show _ = some (.slice X3 G.ks.length Xc3) from rfl); have g4 := (blk_cell H7.out.g 4).trans (show _ = some (.slice X4 G.ac.length Xc4) from rfl)))
  clear H6A CW1
  go_upto_region 9 with (first | (go_at_call 11; (with_reducible refine (CVm.out _ H7.out.h5).mono ?_); rintro e w8 ⟨rfl, hb⟩; have H8 := Aside0.mk (H7.out.far hb); clear hb g0 g1 g2 g3 g4; have g0 := (blk_cell H8.out.g 0).trans (show _ = some (.int .i64 G.p) from rfl); have g1 := (blk_cell H8.out.g 1).trans (show _ = some (.int .i64 G.f) from rfl); have g2 := (blk_cell H8.out.g 2).trans (show _ = some (.slice X2 G.ws.length Xc2) from rfl); have g3 := (blk_cell H8.out.g 3).trans (show _ = some (.slice X3 G.ks.length Xc3) from rfl); have g4 := (blk_cell H8.out.g 4).trans (show _ = some (.slice X4 G.ac.length Xc4) from rfl)))
  clear H7 CVm
  by_cases hc : 0 ≤ idxN k (quN G) ∧ countN G (-1) ≠ 0
  · obtain ⟨hc1, hc2⟩ := hc
    obtain ⟨hw0, ⟨hs0, hs1⟩, hex, hmore⟩ := wait_all HGG.out (n := n) hc1 hc2 hm0 hm1 hn0 (by omega)
    have HSB := Aside0.mk (fun t => serveN_bd G k t n)
    have hsge := (serve_ge HGG.out (n := n) hm0 (by omega) hc1 hc2).2
    clear hc1 hc2 HGG
    obtain ⟨N, hN⟩ : ∃ N, (cycN G).toNat = N := ⟨_, rfl⟩
    rw [hN] at hex
    have hNN : ((N : Nat) : Int) = cycN G := by omega
    rw [← hNN] at CY
    have hN1 : N ≤ 320 := by omega
    clear hN hNN hy0 hy1
    have HEX := Aside0.mk hex
    clear hex
    generalize waitN G k (n + 1) = wt2 at CW2 hmore
    generalize waitN G k n = wt at HEX hw0 hs1 hmore ⊢
    generalize serveN G k m n = sv at hs0 hs1 hsge ⊢
    have e1 : decide (wt < 0) = false := decide_eq_false (by omega)
    clear g0 g1 g2 g3 g4
    go_wp2
    go_loopw [11, 12] (fun v11 v12 wr => ∃ (j : Nat) (b : Bool), v12 = .int .i64 j ∧ j ≤ N ∧ v11 = .bool b ∧ Aside0 (b = true ↔ ∃ t : Nat, t < j ∧ serveN G k t n - t = wt) ∧ Aside0 (GB w w5 wr #[.int .i64 G.p, .int .i64 G.f, .slice X2 G.ws.length Xc2, .slice X3 G.ks.length Xc3, .slice X4 G.ac.length Xc4] #[.int .i64 C.p, .int .i64 C.f, .slice A2 C.ws.length Ac2, .slice A3 C.ks.length Ac3, .slice A4 C.ac.length Ac4])) (fun _ v12 _ => N - (intOf v12).toNat)
    case atStart => exact ⟨0, false, rfl, by omega, rfl, ⟨⟨fun e => (by cases e), fun ⟨t, h1, _⟩ => absurd h1 (Nat.not_lt_zero _)⟩⟩, H8⟩
    case round =>
      clear H8
      rename_i gv11 gv12
      obtain ⟨j, b, rfl, hj, rfl, HBX, HI⟩ := hrel
      have g0 := (blk_cell HI.out.g 0).trans (show _ = some (.int .i64 G.p) from rfl)
      have g1 := (blk_cell HI.out.g 1).trans (show _ = some (.int .i64 G.f) from rfl)
      have g2 := (blk_cell HI.out.g 2).trans (show _ = some (.slice X2 G.ws.length Xc2) from rfl)
      have g3 := (blk_cell HI.out.g 3).trans (show _ = some (.slice X3 G.ks.length Xc3) from rfl)
      have g4 := (blk_cell HI.out.g 4).trans (show _ = some (.slice X4 G.ac.length Xc4) from rfl)
      by_cases hlt : j < N
      · have d1 : decide ((j : Int) < (N : Int)) = true := decide_eq_true (by omega)
        have d1n : decide (j < N) = true := decide_eq_true hlt
        have CVj := Aside0.mk (CV.out (j : Int))
        have hsb := HSB.out (j : Int)
        obtain ⟨sj, hsj⟩ : ∃ sj, serveN G k (j : Int) n = sj := ⟨_, rfl⟩
        rw [hsj] at CVj hsb
        obtain ⟨hb0, hb1⟩ := hsb
        have hsub : wrap64 (sj - (j : Int)) = sj - (j : Int) := w64_in (by omega) (by omega)
        have HST : Aside0 ((∃ t : Nat, t < j + 1 ∧ serveN G k t n - t = wt) ↔ (∃ t : Nat, t < j ∧ serveN G k t n - t = wt) ∨ sj - (j : Int) = wt) := ⟨by
          constructor
          · rintro ⟨t, h1, h2⟩
            rcases Nat.lt_or_ge t j with h3 | h3
            · exact Or.inl ⟨t, h3, h2⟩
            · obtain rfl : t = j := by omega
              exact Or.inr (by rw [← hsj]; exact h2)
          · rintro (⟨t, h1, h2⟩ | h2)
            · exact ⟨t, by omega, h2⟩
            · exact ⟨j, by omega, by rw [hsj]; exact h2⟩⟩
        clear hsj
        cases b
        · by_cases hq : sj - (j : Int) = wt
          · have q1 : decide (sj - (j : Int) = wt) = true := decide_eq_true hq
            have q2 : (sj - (j : Int) == wt) = true := beq_iff_eq.mpr hq
            have HE : Aside0 (∃ t : Nat, t < j + 1 ∧ serveN G k t n - t = wt) := ⟨HST.out.2 (Or.inr hq)⟩
            clear hq
            go_wp2_with (first | (go_at_call 13; (with_reducible refine (CY.out _ HI.out.h5).mono ?_); rintro e w9 ⟨rfl, hb⟩; have H9 := Aside0.mk (HI.out.far hb); clear hb g0 g1 g2 g3 g4; have g0 := (blk_cell H9.out.g 0).trans (show _ = some (.int .i64 G.p) from rfl); have g1 := (blk_cell H9.out.g 1).trans (show _ = some (.int .i64 G.f) from rfl); have g2 := (blk_cell H9.out.g 2).trans (show _ = some (.slice X2 G.ws.length Xc2) from rfl); have g3 := (blk_cell H9.out.g 3).trans (show _ = some (.slice X3 G.ks.length Xc3) from rfl); have g4 := (blk_cell H9.out.g 4).trans (show _ = some (.slice X4 G.ac.length Xc4) from rfl)) | (go_at_call 11; (with_reducible refine (CVj.out _ H9.out.h5).mono ?_); rintro e w10 ⟨rfl, hb⟩; have H10 := Aside0.mk (H9.out.far hb); clear hb g0 g1 g2 g3 g4))
            go_roundw
            case rel => exact ⟨j + 1, true, by go_num, by omega, rfl, ⟨⟨fun _ => HE.out, fun _ => rfl⟩⟩, H10⟩
            case measure => simp [intOf]; omega
          · have q1 : decide (sj - (j : Int) = wt) = false := decide_eq_false hq
            have q2 : (sj - (j : Int) == wt) = false := beq_eq_false_iff_ne.mpr hq
            have HE : Aside0 (¬ ∃ t : Nat, t < j + 1 ∧ serveN G k t n - t = wt) := ⟨fun e => (HST.out.1 e).elim (fun e => by have := HBX.out.2 e; cases this) (fun e => absurd e hq)⟩
            clear hq
            go_wp2_with (first | (go_at_call 13; (with_reducible refine (CY.out _ HI.out.h5).mono ?_); rintro e w9 ⟨rfl, hb⟩; have H9 := Aside0.mk (HI.out.far hb); clear hb g0 g1 g2 g3 g4; have g0 := (blk_cell H9.out.g 0).trans (show _ = some (.int .i64 G.p) from rfl); have g1 := (blk_cell H9.out.g 1).trans (show _ = some (.int .i64 G.f) from rfl); have g2 := (blk_cell H9.out.g 2).trans (show _ = some (.slice X2 G.ws.length Xc2) from rfl); have g3 := (blk_cell H9.out.g 3).trans (show _ = some (.slice X3 G.ks.length Xc3) from rfl); have g4 := (blk_cell H9.out.g 4).trans (show _ = some (.slice X4 G.ac.length Xc4) from rfl)) | (go_at_call 11; (with_reducible refine (CVj.out _ H9.out.h5).mono ?_); rintro e w10 ⟨rfl, hb⟩; have H10 := Aside0.mk (H9.out.far hb); clear hb g0 g1 g2 g3 g4))
            go_roundw
            case rel => exact ⟨j + 1, false, by go_num, by omega, rfl, ⟨⟨fun e => (by cases e), fun e => absurd e HE.out⟩⟩, H10⟩
            case measure => simp [intOf]; omega
        · have HE : Aside0 (∃ t : Nat, t < j + 1 ∧ serveN G k t n - t = wt) := ⟨HST.out.2 (Or.inl (by have := HBX.out; simpa using this))⟩
          go_wp2_with (first | (go_at_call 13; (with_reducible refine (CY.out _ HI.out.h5).mono ?_); rintro e w9 ⟨rfl, hb⟩; have H9 := Aside0.mk (HI.out.far hb); clear hb g0 g1 g2 g3 g4; have g0 := (blk_cell H9.out.g 0).trans (show _ = some (.int .i64 G.p) from rfl); have g1 := (blk_cell H9.out.g 1).trans (show _ = some (.int .i64 G.f) from rfl); have g2 := (blk_cell H9.out.g 2).trans (show _ = some (.slice X2 G.ws.length Xc2) from rfl); have g3 := (blk_cell H9.out.g 3).trans (show _ = some (.slice X3 G.ks.length Xc3) from rfl); have g4 := (blk_cell H9.out.g 4).trans (show _ = some (.slice X4 G.ac.length Xc4) from rfl)))
          go_roundw
          case rel => exact ⟨j + 1, true, by go_num, by omega, rfl, ⟨⟨fun _ => HE.out, fun _ => rfl⟩⟩, H9⟩
          case measure => simp [intOf]; omega
      · have d1 : decide ((j : Int) < (N : Int)) = false := decide_eq_false (by omega)
        have d1n : decide (j < N) = false := decide_eq_false hlt
        obtain rfl : j = N := by omega
        obtain rfl : b = true := HBX.out.2 HEX.out
        have f1 : decide (m ≤ sv) = true := decide_eq_true hs0
        have f2 : wrap64 (sv - m) = sv - m := w64_in (by omega) (by omega)
        have f3 : decide (sv - m ≤ wt) = true := decide_eq_true hs1
        have f4 : decide (wt < wt2) = true := decide_eq_true hmore
        go_wp2_with (first | (go_at_call 13; (with_reducible refine (CY.out _ HI.out.h5).mono ?_); rintro e w9 ⟨rfl, hb⟩; have H9 := Aside0.mk (HI.out.far hb); clear hb g0 g1 g2 g3 g4; have g0 := (blk_cell H9.out.g 0).trans (show _ = some (.int .i64 G.p) from rfl); have g1 := (blk_cell H9.out.g 1).trans (show _ = some (.int .i64 G.f) from rfl); have g2 := (blk_cell H9.out.g 2).trans (show _ = some (.slice X2 G.ws.length Xc2) from rfl); have g3 := (blk_cell H9.out.g 3).trans (show _ = some (.slice X3 G.ks.length Xc3) from rfl); have g4 := (blk_cell H9.out.g 4).trans (show _ = some (.slice X4 G.ac.length Xc4) from rfl)) | (go_at_call 17; (with_reducible refine (CW2.out _ H9.out.h5).mono ?_); rintro e w10 ⟨rfl, hb⟩; have H10 := Aside0.mk (H9.out.far hb); clear hb g0 g1 g2 g3 g4))
        go_ret
        exact ⟨rfl, H10.out.h⟩
  · rw [wait_none HGG.out (n := n + 1) hc] at CW2
    have HW := Aside0.mk (wait_none HGG.out (n := n) hc)
    have HS := Aside0.mk (no_serve HGG.out (now := m) (n := n) hc)
    rw [HW.out, HS.out]
    clear hc HGG HW HS
    go_wp2_with (first | (go_at_call 17; (with_reducible refine (CW2.out _ H8.out.h5).mono ?_); rintro e w9 ⟨rfl, hb⟩; have H9 := Aside0.mk (H8.out.far hb); clear hb g0 g1 g2 g3 g4))
    go_ret
    exact ⟨rfl, H9.out.h⟩
end Go.Proofs.YtcebmgndniejcaaDoor.Wn
