/- BoundTurns: the walk. -/
import Derived.Test.YtcebmgndniejcaaDoorBm
import Derived.Test.YtcebmgndniejcaaDoorBp
import Derived.Test.YtcebmgndniejcaaDoorWrM
import Derived.Test.YtcebmgndniejcaaDoorGw
import Derived.Test.YtcebmgndniejcaaDoorFew
import Derived.Deep.RegionHeld3
set_option linter.unusedVariables false
set_option linter.unusedSimpArgs false
namespace Go.Proofs.YtcebmgndniejcaaDoor.Wn
open Go Go.RowKit Go.Shelf Go.Proofs.YtcebmgndniejcaaDoorW.PrintWords Go.Proofs.YtcebmgndniejcaaDoorW.PrintLast Go.Proofs.YtcebmgndniejcaaDoorW.PrintMore Go.Proofs.YtcebmgndniejcaaDoor.Cz Go.Proofs.YtcebmgndniejcaaDoor.PBoundWaits Go.Proofs.YtcebmgndniejcaaDoor.Cf Go.Proofs.YtcebmgndniejcaaDoor.Sat
attribute [local go_sem] max2_int min2_int max_two min_two max_three min_three max_four min_four Tryd.underlying26 Tryd.underlying41 Tryd.underlying43
theorem turn_end {G : Cfg} {ch now i n la : Int} (hn : 1 ≤ n) (h : TI G ch now i n la) : la = serveN G ch now n := by
  rcases h.2 with h0 | h0
  · omega
  · exact h0.2.2
set_option maxHeartbeats 16000000 in
set_option maxRecDepth 100000 in
theorem boundTurns_any (x0 : Int) (x1 : Int) (x2 : Int) {C : Cfg} {A2 A3 A4 : Option Addr} {Ac2 Ac3 Ac4 : Nat} {w : World} (h : CX w C A2 Ac2 A3 Ac3 A4 Ac4)
    (l2 : C.ws.length ≤ maxLen) (l3 : C.ks.length ≤ maxLen) (l4 : C.ac.length ≤ maxLen) (hg : LG w) :
    Calls Tryd.prog 5 #[.agg #[.int .i64 C.p, .int .i64 C.f, .slice A2 C.ws.length Ac2, .slice A3 C.ks.length Ac3, .slice A4 C.ac.length Ac4], .agg #[.int .i64 x0, .int .i64 x1, .int .i64 x2]] w fun e w' => e = .returned (.bool true) ∧ Below w.heap.size w w' := by
  have FA := Aside0.mk (fun w1 (hb : Below w.heap.size w w1) => few_any (h.below hb) l2 l3 l4)
  have HXD := Aside0.mk h.few
  have HG := Aside0.mk hg
  have B1 := Aside0.mk (show ((w.alloc (.cells #[.int .i64 C.p, .int .i64 C.f, .slice A2 C.ws.length Ac2, .slice A3 C.ks.length Ac3, .slice A4 C.ac.length Ac4] 26)).alloc (.cells #[.int .i64 x0, .int .i64 x1, .int .i64 x2] 27)).heap[w.heap.size]? = some (.cells #[.int .i64 C.p, .int .i64 C.f, .slice A2 C.ws.length Ac2, .slice A3 C.ks.length Ac3, .slice A4 C.ac.length Ac4] 26 (0, 0)) ∧ Below w.heap.size w ((w.alloc (.cells #[.int .i64 C.p, .int .i64 C.f, .slice A2 C.ws.length Ac2, .slice A3 C.ks.length Ac3, .slice A4 C.ac.length Ac4] 26)).alloc (.cells #[.int .i64 x0, .int .i64 x1, .int .i64 x2] 27)) from ⟨blk_alloc (blk_new w _) _, below_alloc (below_alloc (Below.refl _ _) _) _⟩)
  have HAR := Aside0.mk (show ((w.alloc (.cells #[.int .i64 C.p, .int .i64 C.f, .slice A2 C.ws.length Ac2, .slice A3 C.ks.length Ac3, .slice A4 C.ac.length Ac4] 26)).alloc (.cells #[.int .i64 x0, .int .i64 x1, .int .i64 x2] 27)).heap[w.heap.size + 1]? = some (.cells #[.int .i64 x0, .int .i64 x1, .int .i64 x2] 27 (0, 0)) by have := blk_new (w.alloc (.cells #[.int .i64 C.p, .int .i64 C.f, .slice A2 C.ws.length Ac2, .slice A3 C.ks.length Ac3, .slice A4 C.ac.length Ac4] 26)) (.cells #[.int .i64 x0, .int .i64 x1, .int .i64 x2] 27); rw [World.size_alloc] at this; exact this)
  clear h l2 l3 l4 hg
  generalize fewC C = D at FA HXD
  go_enter Tryd.func5, Tryd.ntmps5
  go_upto_region 3 with (first | (go_at_call 8; refine (lives_any (HG.out.below B1.out.2)).mono ?_; rintro e w2 ⟨rfl, hb⟩; have B2_ := Aside0.mk (And.intro (blk_below B1.out.1 hb) (below_step B1.out.2 hb)); have HARn := Aside0.mk (blk_below HAR.out hb); clear HAR; have HAR := HARn; clear HARn; clear hb))
  have s0 := (blk_cell B2_.out.1 0).trans (show _ = some (.int .i64 C.p) from rfl)
  have s1 := (blk_cell B2_.out.1 1).trans (show _ = some (.int .i64 C.f) from rfl)
  have s2 := (blk_cell B2_.out.1 2).trans (show _ = some (.slice A2 C.ws.length Ac2) from rfl)
  have s3 := (blk_cell B2_.out.1 3).trans (show _ = some (.slice A3 C.ks.length Ac3) from rfl)
  have s4 := (blk_cell B2_.out.1 4).trans (show _ = some (.slice A4 C.ac.length Ac4) from rfl)
  clear B1
  go_upto_region 4 with (first | (go_at_call 9; refine (FA.out _ B2_.out.2).mono ?_; rintro e w3 ⟨rfl, hb⟩; have B3 := Aside0.mk (And.intro (blk_below B2_.out.1 hb) (below_step B2_.out.2 hb)); have HARn := Aside0.mk (blk_below HAR.out hb); clear HAR; have HAR := HARn; clear HARn; clear hb) | (go_at_call 10; refine (good_any (HXD.out.below B3.out.2)).mono ?_; rintro e w5 ⟨G, X2, Xc2, X3, Xc3, X4, Xc4, hG, rfl, hx, hb⟩; have HX := Aside0.mk hx; have B5 := Aside0.mk (And.intro (blk_below B3.out.1 hb) (below_step B3.out.2 hb)); have HGG := Aside0.mk hG; have HARn := Aside0.mk (blk_below HAR.out hb); clear HAR; have HAR := HARn; clear HARn; clear hb hx hG))
  clear s0 s1 s2 s3 s4 B2_ B3 FA HXD
  have H6 : GB w w5 (w5.alloc (.cells #[.int .i64 G.p, .int .i64 G.f, .slice X2 G.ws.length Xc2, .slice X3 G.ks.length Xc3, .slice X4 G.ac.length Xc4] 26)) #[.int .i64 G.p, .int .i64 G.f, .slice X2 G.ws.length Xc2, .slice X3 G.ks.length Xc3, .slice X4 G.ac.length Xc4] #[.int .i64 C.p, .int .i64 C.f, .slice A2 C.ws.length Ac2, .slice A3 C.ks.length Ac3, .slice A4 C.ac.length Ac4] := ⟨blk_new _ _, blk_alloc B5.out.1 _, below_alloc (Below.refl _ _) _, below_alloc B5.out.2 _⟩
  have HA6 : (w5.alloc (.cells #[.int .i64 G.p, .int .i64 G.f, .slice X2 G.ws.length Xc2, .slice X3 G.ks.length Xc3, .slice X4 G.ac.length Xc4] 26)).heap[w.heap.size + 1]? = some (.cells #[.int .i64 x0, .int .i64 x1, .int .i64 x2] 27 (0, 0)) := blk_alloc HAR.out _
  clear HAR
  have HG5 := Aside0.mk (HG.out.below B5.out.2)
  clear B5 HG
  revert H6 HA6
  generalize (w5.alloc (.cells #[.int .i64 G.p, .int .i64 G.f, .slice X2 G.ws.length Xc2, .slice X3 G.ks.length Xc3, .slice X4 G.ac.length Xc4] 26)) = W6
  intro H6 HA6
  have H6A := Aside0.mk H6
  clear H6
  have HAR := Aside0.mk HA6
  clear HA6
  have k1 : G.ks.length ≤ 1000 := by have := HGG.out.k; omega
  have k2 : G.ac.length ≤ 1000 := by have := HGG.out.a; have := HGG.out.p; omega
  have k3 : G.ws.length ≤ 1000 := by have := HGG.out.w; omega
  have HM := um x1 1000 (by decide) (by decide)
  obtain ⟨m, hm⟩ : ∃ m, wrap64 (Int.tmod (IntKind.u64.wrap x1) 1000) = m := ⟨_, rfl⟩
  rw [hm] at HM
  have hm0 : 0 ≤ m := by omega
  have hm1 : m < 1000 := by omega
  clear HM
  have HM := um x2 5 (by decide) (by decide)
  obtain ⟨n', hn⟩ : ∃ n', wrap64 (Int.tmod (IntKind.u64.wrap x2) 5) = n' := ⟨_, rfl⟩
  rw [hn] at HM
  obtain ⟨n, hnn⟩ : ∃ n, 1 + n' = n := ⟨_, rfl⟩
  have hn0 : 1 ≤ n := by omega
  have hn1 : n ≤ 5 := by omega
  clear HM
  have hnw : wrap64 (1 + n') = n := by rw [hnn]; exact w64_in (by omega) (by omega)
  obtain ⟨k, hk⟩ : ∃ k, wrap64 (Int.tmod (IntKind.u64.wrap x0) 6) = k := ⟨_, rfl⟩
  have hcy := good_cyc HGG.out
  have CY : Aside0 (∀ (W : World), Below w5.heap.size w5 W → Calls Tryd.prog 13 #[.agg #[.int .i64 G.p, .int .i64 G.f, .slice X2 G.ws.length Xc2, .slice X3 G.ks.length Xc3, .slice X4 G.ac.length Xc4]] W fun e w' => e = .returned (.int .i64 (cycN G)) ∧ Below W.heap.size W w') := ⟨fun  W hb => cycle_any (HX.out.below hb) (HG5.out.below hb) k1 k2 k3⟩
  have CV : Aside0 (∀ (W : World), Below w5.heap.size w5 W → Calls Tryd.prog 11 #[.agg #[.int .i64 G.p, .int .i64 G.f, .slice X2 G.ws.length Xc2, .slice X3 G.ks.length Xc3, .slice X4 G.ac.length Xc4], .int .i64 k, .int .i64 m, .int .i64 n] W fun e w' => e = .returned (.int .i64 (serveN G k m n)) ∧ Below W.heap.size W w') := ⟨fun  W hb => serve_any (HX.out.below hb) (HG5.out.below hb) k1 k2 k3 k m n⟩
  have CS : Aside0 (∀ (t : Int) (W : World), Below w5.heap.size w5 W → Calls Tryd.prog 19 #[.agg #[.int .i64 G.p, .int .i64 G.f, .slice X2 G.ws.length Xc2, .slice X3 G.ks.length Xc3, .slice X4 G.ac.length Xc4], .int .i64 t] W fun e w' => e = .returned (.tuple #[.int .i64 ((servesN G t).getD 0), .bool (servesN G t).isSome]) ∧ Below W.heap.size W w') := ⟨fun t W hb => rserves_any (HX.out.below hb) k1 k2 k3 t⟩
  clear k1 k2 k3 HX HG5
  obtain ⟨_, _, _, hy0, hy1⟩ := hcy
  have g0 := (blk_cell H6A.out.g 0).trans (show _ = some (.int .i64 G.p) from rfl)
  have g1 := (blk_cell H6A.out.g 1).trans (show _ = some (.int .i64 G.f) from rfl)
  have g2 := (blk_cell H6A.out.g 2).trans (show _ = some (.slice X2 G.ws.length Xc2) from rfl)
  have g3 := (blk_cell H6A.out.g 3).trans (show _ = some (.slice X3 G.ks.length Xc3) from rfl)
  have g4 := (blk_cell H6A.out.g 4).trans (show _ = some (.slice X4 G.ac.length Xc4) from rfl)
  have a0 := (blk_cell HAR.out 0).trans (show _ = some (.int .i64 x0) from rfl)
  have a1 := (blk_cell HAR.out 1).trans (show _ = some (.int .i64 x1) from rfl)
  have a2 := (blk_cell HAR.out 2).trans (show _ = some (.int .i64 x2) from rfl)
  go_upto_region 5 with (first | fail)
  rw [hk]
  clear hk
  go_upto_region 6 with (first | fail)
  rw [hm]
  clear hm
  go_upto_region 7 with (first | fail)
  rw [hn]
  try rw [hnw]
  clear hn hnw hnn a0 a1 a2 HAR
  go_upto_region 8 with (first | (go_at_call 11; (with_reducible refine (CV.out _ H6A.out.h5).mono ?_); rintro e w7 ⟨rfl, hb⟩; have H7 := Aside0.mk (H6A.out.far hb); clear hb g0 g1 g2 g3 g4; have g0 := (blk_cell H7.out.g 0).trans (show _ = some (.int .i64 G.p) from rfl); have g1 := (blk_cell H7.out.g 1).trans (show _ = some (.int .i64 G.f) from rfl); have g2 := (blk_cell H7.out.g 2).trans (show _ = some (.slice X2 G.ws.length Xc2) from rfl); have g3 := (blk_cell H7.out.g 3).trans (show _ = some (.slice X3 G.ks.length Xc3) from rfl); have g4 := (blk_cell H7.out.g 4).trans (show _ = some (.slice X4 G.ac.length Xc4) from rfl)))
  clear H6A CV
  obtain ⟨cy, hcc⟩ : ∃ cy, cycN G = cy := ⟨_, rfl⟩
  rw [hcc] at CY hy0 hy1
  obtain ⟨p, hp⟩ : ∃ p, n * cy = p := ⟨_, rfl⟩
  have hp0 : 0 ≤ p := by rw [← hp]; exact Int.mul_nonneg (by omega) (by omega)
  have hp1 : p ≤ 5 * 320 := by rw [← hp]; exact Int.mul_le_mul hn1 hy1 (by omega) (by omega)
  have hpw : wrap64 p = p := w64_in (by omega) (by omega)
  have hpp : wrap64 (n * cy) = p := by rw [hp]; exact hpw
  have HPP := Aside0.mk (show n * cycN G = p by rw [hcc]; exact hp)
  clear hcc
  have hmp : wrap64 (m + p) = m + p := w64_in (by omega) (by omega)
  by_cases hc : 0 ≤ idxN k (quN G) ∧ countN G (-1) ≠ 0
  · obtain ⟨hc1, hc2⟩ := hc
    have HT0 := Aside0.mk (turn_start HGG.out (ch := k) hm0 (by omega) hc1)
    have HTY := Aside0.mk (fun i s la => turn_yes HGG.out (ch := k) (i := i) (s := s) (la := la) hm0 (by omega) hc1 hc2)
    have HTN := Aside0.mk (fun i s la => turn_no HGG.out (ch := k) (i := i) (s := s) (la := la) hm0 (by omega) hc1)
    have HTM := Aside0.mk (fun s la => turn_more HGG.out (ch := k) (s := s) (n := n) (la := la) hm0 (by omega) hc1 hc2)
    rw [HPP.out] at HTM
    have HTE := Aside0.mk (fun i la => turn_end (G := G) (ch := k) (now := m) (i := i) (la := la) hn0)
    generalize serveN G k m n = t at HTE ⊢
    clear hc1 hc2 HGG HPP g0 g1 g2 g3 g4
    go_wp2
    go_loopw [10, 11, 12] (fun v10 v11 v12 wr => ∃ i s la : Int, v12 = .int .i64 i ∧ m ≤ i ∧ i ≤ m + p ∧ v10 = .int .i64 s ∧ 0 ≤ s ∧ s ≤ n ∧ v11 = .int .i64 la ∧ Aside0 (TI G k m i s la) ∧ Aside0 (GB w w5 wr #[.int .i64 G.p, .int .i64 G.f, .slice X2 G.ws.length Xc2, .slice X3 G.ks.length Xc3, .slice X4 G.ac.length Xc4] #[.int .i64 C.p, .int .i64 C.f, .slice A2 C.ws.length Ac2, .slice A3 C.ks.length Ac3, .slice A4 C.ac.length Ac4])) (fun _ _ v12 _ => (m + p - intOf v12).toNat)
    case atStart => exact ⟨m, 0, -1, rfl, by omega, by omega, rfl, by omega, by omega, rfl, HT0, H7⟩
    case round =>
      clear H7 HT0
      rename_i gv10 gv11 gv12
      obtain ⟨i, s, la, rfl, hi0, hi1, rfl, hs0, hs1, rfl, HT, HI⟩ := hrel
      have g0 := (blk_cell HI.out.g 0).trans (show _ = some (.int .i64 G.p) from rfl)
      have g1 := (blk_cell HI.out.g 1).trans (show _ = some (.int .i64 G.f) from rfl)
      have g2 := (blk_cell HI.out.g 2).trans (show _ = some (.slice X2 G.ws.length Xc2) from rfl)
      have g3 := (blk_cell HI.out.g 3).trans (show _ = some (.slice X3 G.ks.length Xc3) from rfl)
      have g4 := (blk_cell HI.out.g 4).trans (show _ = some (.slice X4 G.ac.length Xc4) from rfl)
      by_cases hlt : i < m + p
      · have d1 : decide (i < m + p) = true := decide_eq_true hlt
        by_cases hsn : s < n
        · have d2 : decide (s < n) = true := decide_eq_true hsn
          have CSi := Aside0.mk (CS.out i)
          have hi2 : wrap64 (i + 1) = i + 1 := w64_in (by omega) (by omega)
          have hs2 : wrap64 (s + 1) = s + 1 := w64_in (by omega) (by omega)
          have hwo : servesN G i = some k ∨ servesN G i = none ∨ ∃ r, servesN G i = some r ∧ decide (r = k) = false ∧ (r == k) = false ∧ r ≠ k := by
            cases h : servesN G i with
            | none => exact Or.inr (Or.inl rfl)
            | some r =>
              by_cases hr : r = k
              · exact Or.inl (by rw [hr])
              · exact Or.inr (Or.inr ⟨r, rfl, decide_eq_false hr, beq_eq_false_iff_ne.mpr hr, hr⟩)
          rcases hwo with hw | hw | ⟨r, hw, hr1, hr2, hr3⟩
          · have HE := Aside0.mk (HTY.out i s la hi0 (by omega) hs0 (by omega) HT.out hw)
            rw [hw] at CSi
            have hop : (some k).getD 0 = k := rfl
            have hos : (some k).isSome = true := rfl
            rw [hop, hos] at CSi
            clear hop hos hw
            go_wp2_with (first | (go_at_call 13; (with_reducible refine (CY.out _ HI.out.h5).mono ?_); rintro e w8 ⟨rfl, hb⟩; have H8 := Aside0.mk (HI.out.far hb); clear hb g0 g1 g2 g3 g4; have g0 := (blk_cell H8.out.g 0).trans (show _ = some (.int .i64 G.p) from rfl); have g1 := (blk_cell H8.out.g 1).trans (show _ = some (.int .i64 G.f) from rfl); have g2 := (blk_cell H8.out.g 2).trans (show _ = some (.slice X2 G.ws.length Xc2) from rfl); have g3 := (blk_cell H8.out.g 3).trans (show _ = some (.slice X3 G.ks.length Xc3) from rfl); have g4 := (blk_cell H8.out.g 4).trans (show _ = some (.slice X4 G.ac.length Xc4) from rfl)) | (go_at_call 19; (with_reducible refine (CSi.out _ H8.out.h5).mono ?_); rintro e w9 ⟨rfl, hb⟩; have H9 := Aside0.mk (H8.out.far hb); clear hb g0 g1 g2 g3 g4))
            go_roundw
            case rel => exact ⟨i + 1, s + 1, i, by first | rfl | rw [hi2] | go_num, by omega, by omega, by first | rfl | rw [hs2], by omega, by omega, rfl, HE, H9⟩
            case measure => simp [intOf]; omega
          ·
            rw [hw] at CSi
            have hos : (none : Option Int).isSome = false := rfl
            rw [hos] at CSi
            clear hos
            generalize (none : Option Int).getD 0 = a at CSi
            have hne : servesN G i ≠ some k := fun e => by rw [hw] at e; cases e
            clear hw
            have HE := Aside0.mk (HTN.out i s la hi0 (by omega) HT.out hne)
            clear hne
            go_wp2_with (first | (go_at_call 13; (with_reducible refine (CY.out _ HI.out.h5).mono ?_); rintro e w8 ⟨rfl, hb⟩; have H8 := Aside0.mk (HI.out.far hb); clear hb g0 g1 g2 g3 g4; have g0 := (blk_cell H8.out.g 0).trans (show _ = some (.int .i64 G.p) from rfl); have g1 := (blk_cell H8.out.g 1).trans (show _ = some (.int .i64 G.f) from rfl); have g2 := (blk_cell H8.out.g 2).trans (show _ = some (.slice X2 G.ws.length Xc2) from rfl); have g3 := (blk_cell H8.out.g 3).trans (show _ = some (.slice X3 G.ks.length Xc3) from rfl); have g4 := (blk_cell H8.out.g 4).trans (show _ = some (.slice X4 G.ac.length Xc4) from rfl)) | (go_at_call 19; (with_reducible refine (CSi.out _ H8.out.h5).mono ?_); rintro e w9 ⟨rfl, hb⟩; have H9 := Aside0.mk (H8.out.far hb); clear hb g0 g1 g2 g3 g4))
            go_roundw
            case rel => exact ⟨i + 1, s, la, by first | rfl | rw [hi2] | go_num, by omega, by omega, rfl, by omega, by omega, rfl, HE, H9⟩
            case measure => simp [intOf]; omega
          ·
            rw [hw] at CSi
            have hop : (some r).getD 0 = r := rfl
            have hos : (some r).isSome = true := rfl
            rw [hop, hos] at CSi
            clear hop hos
            have hne : servesN G i ≠ some k := fun e => hr3 (Option.some.inj (hw.symm.trans e))
            clear hw hr3
            have HE := Aside0.mk (HTN.out i s la hi0 (by omega) HT.out hne)
            clear hne
            go_wp2_with (first | (go_at_call 13; (with_reducible refine (CY.out _ HI.out.h5).mono ?_); rintro e w8 ⟨rfl, hb⟩; have H8 := Aside0.mk (HI.out.far hb); clear hb g0 g1 g2 g3 g4; have g0 := (blk_cell H8.out.g 0).trans (show _ = some (.int .i64 G.p) from rfl); have g1 := (blk_cell H8.out.g 1).trans (show _ = some (.int .i64 G.f) from rfl); have g2 := (blk_cell H8.out.g 2).trans (show _ = some (.slice X2 G.ws.length Xc2) from rfl); have g3 := (blk_cell H8.out.g 3).trans (show _ = some (.slice X3 G.ks.length Xc3) from rfl); have g4 := (blk_cell H8.out.g 4).trans (show _ = some (.slice X4 G.ac.length Xc4) from rfl)) | (go_at_call 19; (with_reducible refine (CSi.out _ H8.out.h5).mono ?_); rintro e w9 ⟨rfl, hb⟩; have H9 := Aside0.mk (H8.out.far hb); clear hb g0 g1 g2 g3 g4))
            go_roundw
            case rel => exact ⟨i + 1, s, la, by first | rfl | rw [hi2] | go_num, by omega, by omega, rfl, by omega, by omega, rfl, HE, H9⟩
            case measure => simp [intOf]; omega
        · have d2 : decide (s < n) = false := decide_eq_false hsn
          obtain rfl : s = n := by omega
          have HL := HTE.out i la HT.out
          subst HL
          go_wp2_with (first | (go_at_call 13; (with_reducible refine (CY.out _ HI.out.h5).mono ?_); rintro e w8 ⟨rfl, hb⟩; have H8 := Aside0.mk (HI.out.far hb); clear hb g0 g1 g2 g3 g4; have g0 := (blk_cell H8.out.g 0).trans (show _ = some (.int .i64 G.p) from rfl); have g1 := (blk_cell H8.out.g 1).trans (show _ = some (.int .i64 G.f) from rfl); have g2 := (blk_cell H8.out.g 2).trans (show _ = some (.slice X2 G.ws.length Xc2) from rfl); have g3 := (blk_cell H8.out.g 3).trans (show _ = some (.slice X3 G.ks.length Xc3) from rfl); have g4 := (blk_cell H8.out.g 4).trans (show _ = some (.slice X4 G.ac.length Xc4) from rfl)))
          go_ret
          exact ⟨rfl, H8.out.h⟩
      · have d1 : decide (i < m + p) = false := decide_eq_false hlt
        obtain rfl : i = m + p := by omega
        have hsn : ¬ s < n := fun hsn => HTM.out s la hs0 hn1 hsn HT.out
        have d2 : decide (s < n) = false := decide_eq_false hsn
        obtain rfl : s = n := by omega
        have HL := HTE.out (m + p) la HT.out
        subst HL
        go_wp2_with (first | (go_at_call 13; (with_reducible refine (CY.out _ HI.out.h5).mono ?_); rintro e w8 ⟨rfl, hb⟩; have H8 := Aside0.mk (HI.out.far hb); clear hb g0 g1 g2 g3 g4; have g0 := (blk_cell H8.out.g 0).trans (show _ = some (.int .i64 G.p) from rfl); have g1 := (blk_cell H8.out.g 1).trans (show _ = some (.int .i64 G.f) from rfl); have g2 := (blk_cell H8.out.g 2).trans (show _ = some (.slice X2 G.ws.length Xc2) from rfl); have g3 := (blk_cell H8.out.g 3).trans (show _ = some (.slice X3 G.ks.length Xc3) from rfl); have g4 := (blk_cell H8.out.g 4).trans (show _ = some (.slice X4 G.ac.length Xc4) from rfl)))
        go_ret
        exact ⟨rfl, H8.out.h⟩
  · have HNS := Aside0.mk (no_serve HGG.out (ch := k) (now := m) (n := n) hc)
    rw [HNS.out]
    have HNO : Aside0 (∀ i : Int, m ≤ i → i ≤ 10000 → servesN G i ≠ some k) := ⟨fun i h0 h1 e => by
      obtain ⟨e1, e2, _⟩ := (serves_is HGG.out (ch := k) (by omega) (by omega)).1 e
      refine hc ⟨e2, fun hk0 => ?_⟩
      have := good_count_pos HGG.out (by omega) (by omega) e1
      omega⟩
    clear hc HGG HPP HNS g0 g1 g2 g3 g4
    go_wp2
    go_loopw [10, 11, 12] (fun v10 v11 v12 wr => ∃ i : Int, v12 = .int .i64 i ∧ m ≤ i ∧ i ≤ m + p ∧ v10 = .int .i64 0 ∧ v11 = .int .i64 (-1) ∧ Aside0 (GB w w5 wr #[.int .i64 G.p, .int .i64 G.f, .slice X2 G.ws.length Xc2, .slice X3 G.ks.length Xc3, .slice X4 G.ac.length Xc4] #[.int .i64 C.p, .int .i64 C.f, .slice A2 C.ws.length Ac2, .slice A3 C.ks.length Ac3, .slice A4 C.ac.length Ac4])) (fun _ _ v12 _ => (m + p - intOf v12).toNat)
    case atStart => exact ⟨m, rfl, by omega, by omega, rfl, rfl, H7⟩
    case round =>
      clear H7
      rename_i gv10 gv11 gv12
      obtain ⟨i, rfl, hi0, hi1, rfl, rfl, HI⟩ := hrel
      have g0 := (blk_cell HI.out.g 0).trans (show _ = some (.int .i64 G.p) from rfl)
      have g1 := (blk_cell HI.out.g 1).trans (show _ = some (.int .i64 G.f) from rfl)
      have g2 := (blk_cell HI.out.g 2).trans (show _ = some (.slice X2 G.ws.length Xc2) from rfl)
      have g3 := (blk_cell HI.out.g 3).trans (show _ = some (.slice X3 G.ks.length Xc3) from rfl)
      have g4 := (blk_cell HI.out.g 4).trans (show _ = some (.slice X4 G.ac.length Xc4) from rfl)
      have d2 : decide (0 < n) = true := decide_eq_true (by omega)
      by_cases hlt : i < m + p
      · have d1 : decide (i < m + p) = true := decide_eq_true hlt
        have hno := HNO.out i hi0 (by omega)
        have CSi := Aside0.mk (CS.out i)
        have hi2 : wrap64 (i + 1) = i + 1 := w64_in (by omega) (by omega)
        have hwo : servesN G i = none ∨ ∃ r, servesN G i = some r ∧ decide (r = k) = false ∧ (r == k) = false := by
          cases h : servesN G i with
          | none => exact Or.inl rfl
          | some r =>
            have hr : r ≠ k := fun e => hno (by rw [h, e])
            exact Or.inr ⟨r, rfl, decide_eq_false hr, beq_eq_false_iff_ne.mpr hr⟩
        clear hno
        rcases hwo with hw | ⟨r, hw, hr1, hr2⟩
        ·
          rw [hw] at CSi
          have hos : (none : Option Int).isSome = false := rfl
          rw [hos] at CSi
          clear hos
          generalize (none : Option Int).getD 0 = a at CSi
          clear hw
          go_wp2_with (first | (go_at_call 13; (with_reducible refine (CY.out _ HI.out.h5).mono ?_); rintro e w8 ⟨rfl, hb⟩; have H8 := Aside0.mk (HI.out.far hb); clear hb g0 g1 g2 g3 g4; have g0 := (blk_cell H8.out.g 0).trans (show _ = some (.int .i64 G.p) from rfl); have g1 := (blk_cell H8.out.g 1).trans (show _ = some (.int .i64 G.f) from rfl); have g2 := (blk_cell H8.out.g 2).trans (show _ = some (.slice X2 G.ws.length Xc2) from rfl); have g3 := (blk_cell H8.out.g 3).trans (show _ = some (.slice X3 G.ks.length Xc3) from rfl); have g4 := (blk_cell H8.out.g 4).trans (show _ = some (.slice X4 G.ac.length Xc4) from rfl)) | (go_at_call 19; (with_reducible refine (CSi.out _ H8.out.h5).mono ?_); rintro e w9 ⟨rfl, hb⟩; have H9 := Aside0.mk (H8.out.far hb); clear hb g0 g1 g2 g3 g4))
          go_roundw
          case rel => exact ⟨i + 1, by first | rfl | rw [hi2] | go_num, by omega, by omega, rfl, rfl, H9⟩
          case measure => simp [intOf]; omega
        ·
          rw [hw] at CSi
          have hop : (some r).getD 0 = r := rfl
          have hos : (some r).isSome = true := rfl
          rw [hop, hos] at CSi
          clear hop hos
          clear hw
          go_wp2_with (first | (go_at_call 13; (with_reducible refine (CY.out _ HI.out.h5).mono ?_); rintro e w8 ⟨rfl, hb⟩; have H8 := Aside0.mk (HI.out.far hb); clear hb g0 g1 g2 g3 g4; have g0 := (blk_cell H8.out.g 0).trans (show _ = some (.int .i64 G.p) from rfl); have g1 := (blk_cell H8.out.g 1).trans (show _ = some (.int .i64 G.f) from rfl); have g2 := (blk_cell H8.out.g 2).trans (show _ = some (.slice X2 G.ws.length Xc2) from rfl); have g3 := (blk_cell H8.out.g 3).trans (show _ = some (.slice X3 G.ks.length Xc3) from rfl); have g4 := (blk_cell H8.out.g 4).trans (show _ = some (.slice X4 G.ac.length Xc4) from rfl)) | (go_at_call 19; (with_reducible refine (CSi.out _ H8.out.h5).mono ?_); rintro e w9 ⟨rfl, hb⟩; have H9 := Aside0.mk (H8.out.far hb); clear hb g0 g1 g2 g3 g4))
          go_roundw
          case rel => exact ⟨i + 1, by first | rfl | rw [hi2] | go_num, by omega, by omega, rfl, rfl, H9⟩
          case measure => simp [intOf]; omega
      · have d1 : decide (i < m + p) = false := decide_eq_false hlt
        go_wp2_with (first | (go_at_call 13; (with_reducible refine (CY.out _ HI.out.h5).mono ?_); rintro e w8 ⟨rfl, hb⟩; have H8 := Aside0.mk (HI.out.far hb); clear hb g0 g1 g2 g3 g4; have g0 := (blk_cell H8.out.g 0).trans (show _ = some (.int .i64 G.p) from rfl); have g1 := (blk_cell H8.out.g 1).trans (show _ = some (.int .i64 G.f) from rfl); have g2 := (blk_cell H8.out.g 2).trans (show _ = some (.slice X2 G.ws.length Xc2) from rfl); have g3 := (blk_cell H8.out.g 3).trans (show _ = some (.slice X3 G.ks.length Xc3) from rfl); have g4 := (blk_cell H8.out.g 4).trans (show _ = some (.slice X4 G.ac.length Xc4) from rfl)))
        go_ret
        exact ⟨rfl, H8.out.h⟩
end Go.Proofs.YtcebmgndniejcaaDoor.Wn
