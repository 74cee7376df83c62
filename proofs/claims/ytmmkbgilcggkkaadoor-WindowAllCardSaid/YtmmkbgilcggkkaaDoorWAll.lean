/- WindowAll: the walk. -/
import Derived.Test.YtmmkbgilcggkkaaDoorWp
import Derived.Test.YtmmkbgilcggkkaaDoorGw
import Derived.Test.YtmmkbgilcggkkaaDoorFew
import Derived.Test.YtmmkbgilcggkkaaDoorWm
import Derived.Deep.RegionHeld3
set_option linter.unusedVariables false
set_option linter.unusedSimpArgs false
namespace Go.Proofs.YtmmkbgilcggkkaaDoor.Wn
open Go Go.RowKit Go.Shelf Go.Proofs.YtmmkbgilcggkkaaDoorW.PrintWords Go.Proofs.YtmmkbgilcggkkaaDoorW.PrintLast Go.Proofs.YtmmkbgilcggkkaaDoorW.PrintMore Go.Proofs.YtmmkbgilcggkkaaDoor.Cz Go.Proofs.YtmmkbgilcggkkaaDoor.PWindowCalls Go.Proofs.YtmmkbgilcggkkaaDoor.Cf Go.Proofs.YtmmkbgilcggkkaaDoor.Sat
attribute [local go_sem] max2_int min2_int max_two min_two max_three min_three max_four min_four Tryd.underlying26 Tryd.underlying41 Tryd.underlying37
set_option maxHeartbeats 16000000 in
set_option maxRecDepth 100000 in
theorem windowAll_any (now : Int) {C : Cfg} {A2 A3 A4 : Option Addr} {Ac2 Ac3 Ac4 : Nat} {w : World} (h : CX w C A2 Ac2 A3 Ac3 A4 Ac4)
    (l2 : C.ws.length ≤ maxLen) (l3 : C.ks.length ≤ maxLen) (l4 : C.ac.length ≤ maxLen) (hg : LG w) :
    Calls Tryd.prog 5 #[.agg #[.int .i64 C.p, .int .i64 C.f, .slice A2 C.ws.length Ac2, .slice A3 C.ks.length Ac3, .slice A4 C.ac.length Ac4], .int .i64 now] w fun e w' => e = .returned (.bool true) ∧ Below w.heap.size w w' := by
  have FA := Aside0.mk (fun w1 (hb : Below w.heap.size w w1) => few_any (h.below hb) l2 l3 l4)
  have HXD := Aside0.mk h.few
  have HG := Aside0.mk hg
  have B1 := Aside0.mk (And.intro (blk_new w (.cells #[.int .i64 C.p, .int .i64 C.f, .slice A2 C.ws.length Ac2, .slice A3 C.ks.length Ac3, .slice A4 C.ac.length Ac4] 26)) (below_alloc (Below.refl w.heap.size w) (.cells #[.int .i64 C.p, .int .i64 C.f, .slice A2 C.ws.length Ac2, .slice A3 C.ks.length Ac3, .slice A4 C.ac.length Ac4] 26)))
  clear h l2 l3 l4 hg
  generalize fewC C = D at FA HXD
  go_enter Tryd.func5, Tryd.ntmps5
  go_upto_region 3 with (first | (go_at_call 10; refine (lives_any (HG.out.below B1.out.2)).mono ?_; rintro e w2 ⟨rfl, hb⟩; have B2_ := Aside0.mk (And.intro (blk_below B1.out.1 hb) (below_step B1.out.2 hb)); clear hb))
  have s0 := (blk_cell B2_.out.1 0).trans (show _ = some (.int .i64 C.p) from rfl)
  have s1 := (blk_cell B2_.out.1 1).trans (show _ = some (.int .i64 C.f) from rfl)
  have s2 := (blk_cell B2_.out.1 2).trans (show _ = some (.slice A2 C.ws.length Ac2) from rfl)
  have s3 := (blk_cell B2_.out.1 3).trans (show _ = some (.slice A3 C.ks.length Ac3) from rfl)
  have s4 := (blk_cell B2_.out.1 4).trans (show _ = some (.slice A4 C.ac.length Ac4) from rfl)
  clear B1
  go_upto_region 4 with (first | (go_at_call 12; refine (FA.out _ B2_.out.2).mono ?_; rintro e w3 ⟨rfl, hb⟩; have B3 := Aside0.mk (below_step B2_.out.2 hb); clear hb) | (go_at_call 11; refine (good_any (HXD.out.below B3.out)).mono ?_; rintro e w5 ⟨G, X2, Xc2, X3, Xc3, X4, Xc4, hG, rfl, hx, hb⟩; have HX := Aside0.mk hx; have B5 := Aside0.mk (below_step B3.out hb); have HGG := Aside0.mk hG; clear hb hx hG))
  clear s0 s1 s2 s3 s4 B2_ B3 FA HXD
  have H6 : (w5.alloc (.cells #[.int .i64 G.p, .int .i64 G.f, .slice X2 G.ws.length Xc2, .slice X3 G.ks.length Xc3, .slice X4 G.ac.length Xc4] 26)).heap[w5.heap.size]? = some (.cells #[.int .i64 G.p, .int .i64 G.f, .slice X2 G.ws.length Xc2, .slice X3 G.ks.length Xc3, .slice X4 G.ac.length Xc4] 26 (0, 0)) ∧ Below w5.heap.size w5 (w5.alloc (.cells #[.int .i64 G.p, .int .i64 G.f, .slice X2 G.ws.length Xc2, .slice X3 G.ks.length Xc3, .slice X4 G.ac.length Xc4] 26)) := ⟨blk_new _ _, below_alloc (Below.refl _ _) _⟩
  have HG5 := Aside0.mk (HG.out.below B5.out)
  clear HG
  revert H6
  generalize (w5.alloc (.cells #[.int .i64 G.p, .int .i64 G.f, .slice X2 G.ws.length Xc2, .slice X3 G.ks.length Xc3, .slice X4 G.ac.length Xc4] 26)) = W6
  intro H6
  have HM := um now 100000 (by decide) (by decide)
  obtain ⟨m, hm⟩ : ∃ m, wrap64 (Int.tmod (IntKind.u64.wrap now) 100000) = m := ⟨_, rfl⟩
  rw [hm] at HM
  have hm0 : 0 ≤ m := by omega
  have hm1 : m < 100000 := by omega
  clear HM
  have hf := HGG.out.f
  have hp := HGG.out.p
  have hmf : wrap64 (m + G.f) = m + G.f := w64_in (by omega) (by omega)
  have hmI : IntKind.i64.wrap (m + G.f) = m + G.f := (IntWalk.i64_left _).trans hmf
  have k1 : G.ks.length ≤ 1000 := by have := HGG.out.k; omega
  have k2 : G.ac.length ≤ 1000 := by have := HGG.out.a; omega
  have k3 : G.ws.length ≤ 1000 := by have := HGG.out.w; omega
  have CC : Aside0 (∀ (o : Int) (W : World), Below w5.heap.size w5 W → Calls Tryd.prog 17 #[.agg #[.int .i64 G.p, .int .i64 G.f, .slice X2 G.ws.length Xc2, .slice X3 G.ks.length Xc3, .slice X4 G.ac.length Xc4], .int .i64 o] W fun e w' => e = .returned (.int .i64 (countN G o)) ∧ Below W.heap.size W w') := ⟨fun o W hb => count_any (HX.out.below hb) (HG5.out.below hb) k1 k2 k3 o⟩
  have CW : Aside0 (∀ (t : Int) (W : World), Below w5.heap.size w5 W → Calls Tryd.prog 14 #[.agg #[.int .i64 G.p, .int .i64 G.f, .slice X2 G.ws.length Xc2, .slice X3 G.ks.length Xc3, .slice X4 G.ac.length Xc4], .int .i64 t] W fun e w' => e = .returned (.tuple #[.int .i64 ((whoN G t).getD 0), .bool (whoN G t).isSome]) ∧ Below W.heap.size W w') := ⟨fun t W hb => whose_any (HX.out.below hb) (HG5.out.below hb) k1 k2 k3 t⟩
  have HCB := Aside0.mk (good_count_bd HGG.out)
  have HST := Aside0.mk (fun t => all_step HGG.out (t := t))
  have HFR := Aside0.mk (all_frame HGG.out hm0 (by omega))
  have HCO := Aside0.mk (show cntO G = sumO (fun o => countN G o) (G.p + 1).toNat from rfl)
  have HFAR := Aside0.mk (good_far HGG.out)
  clear k1 k2 k3 HX HG5 HGG
  have g0 := (blk_cell H6.1 0).trans (show _ = some (.int .i64 G.p) from rfl)
  have g1 := (blk_cell H6.1 1).trans (show _ = some (.int .i64 G.f) from rfl)
  have g2 := (blk_cell H6.1 2).trans (show _ = some (.slice X2 G.ws.length Xc2) from rfl)
  have g3 := (blk_cell H6.1 3).trans (show _ = some (.slice X3 G.ks.length Xc3) from rfl)
  have g4 := (blk_cell H6.1 4).trans (show _ = some (.slice X4 G.ac.length Xc4) from rfl)
  have H6A := Aside0.mk H6
  clear H6
  go_wp2
  clear g0 g1 g2 g3 g4
  go_loopw [6, 8] (fun v6 v8 wr => ∃ (o : Int) (j : Nat), v8 = .int .i64 o ∧ Aside0 (o = (j : Int) - 1) ∧ (-1 ≤ o ∧ o ≤ G.p) ∧ v6 = .int .i64 (sumO (fun o => countN G o) j) ∧ Aside0 (wr.heap[w5.heap.size]? = some (.cells #[.int .i64 G.p, .int .i64 G.f, .slice X2 G.ws.length Xc2, .slice X3 G.ks.length Xc3, .slice X4 G.ac.length Xc4] 26 (0, 0)) ∧ Below w5.heap.size w5 wr)) (fun _ v8 _ => (5 - intOf v8).toNat)
  case atStart => exact ⟨-1, 0, rfl, ⟨rfl⟩, by omega, rfl, H6A⟩
  case round =>
    clear H6A
    rename_i gv6 gv8
    obtain ⟨o, j, rfl, hj, hj1, rfl, HI⟩ := hrel
    have g0 := (blk_cell HI.out.1 0).trans (show _ = some (.int .i64 G.p) from rfl)
    have g1 := (blk_cell HI.out.1 1).trans (show _ = some (.int .i64 G.f) from rfl)
    have g2 := (blk_cell HI.out.1 2).trans (show _ = some (.slice X2 G.ws.length Xc2) from rfl)
    have g3 := (blk_cell HI.out.1 3).trans (show _ = some (.slice X3 G.ks.length Xc3) from rfl)
    have g4 := (blk_cell HI.out.1 4).trans (show _ = some (.slice X4 G.ac.length Xc4) from rfl)
    have hsb := sumO_bd HCB.out j
    by_cases hlt : o < G.p
    · have d1 : decide (o < G.p) = true := decide_eq_true hlt
      have hcb := HCB.out o
      have hjb : (j : Int) ≤ 5 := by have := hj.out; omega
      have hss : sumO (fun o => countN G o) (j + 1) = sumO (fun o => countN G o) j + countN G o := by rw [hj.out]; rfl
      have HSS := Aside0.mk hss
      clear hss
      have CCo := Aside0.mk (CC.out o)
      generalize sumO (fun o => countN G o) j = s at hsb HSS ⊢
      generalize countN G o = k at hcb HSS CCo
      have hsk : wrap64 (s + k) = s + k := w64_in (by omega) (by omega)
      have hsI : IntKind.i64.wrap (s + k) = s + k := (IntWalk.i64_left _).trans hsk
      have ho1 : wrap64 (o + 1) = o + 1 := w64_in (by omega) (by omega)
      go_wp2_with (first | (go_at_call 17; (with_reducible refine (CCo.out _ HI.out.2).mono ?_); rintro e w8 ⟨rfl, hb⟩; have H8 := Aside0.mk (And.intro (blk_below HI.out.1 hb) (below_step HI.out.2 hb)); clear hb g0 g1 g2 g3 g4))
      go_roundw
      case rel => exact ⟨o + 1, j + 1, by first | rfl | rw [ho1] | go_num, ⟨by have := hj.out; omega⟩, by omega, by rw [HSS.out], H8⟩
      case measure => simp [intOf]; omega
    · have d1 : decide (o < G.p) = false := decide_eq_false hlt
      have hjp : j = (G.p + 1).toNat := by have := hj.out; omega
      subst hjp
      rw [← HCO.out] at hsb ⊢
      have hjb : ((G.p + 1).toNat : Int) ≤ 5 := by omega
      have HSB := Aside0.mk (show 0 ≤ cntO G ∧ cntO G ≤ 2560 by omega)
      clear hsb HCO hjb hj
      go_upto_region 10 with (first | fail)
      rw [hm]
      clear hm g0 g1 g2 g3 g4 d1 hlt
      go_wp2
      go_loopw [7, 10] (fun v7 v10 wr => ∃ (t fr : Int), v10 = .int .i64 t ∧ m ≤ t ∧ t ≤ m + G.f ∧ v7 = .int .i64 fr ∧ (0 ≤ fr ∧ fr ≤ t - m) ∧ Aside0 (fr = (t - m) - (allO G t - allO G m)) ∧ Aside0 (wr.heap[w5.heap.size]? = some (.cells #[.int .i64 G.p, .int .i64 G.f, .slice X2 G.ws.length Xc2, .slice X3 G.ks.length Xc3, .slice X4 G.ac.length Xc4] 26 (0, 0)) ∧ Below w5.heap.size w5 wr)) (fun _ v10 _ => (m + G.f - intOf v10).toNat)
      case atStart => exact ⟨m, 0, rfl, by omega, by omega, rfl, by omega, ⟨by omega⟩, HI⟩
      case round =>
        clear HI
        rename_i gv7 gv10
        obtain ⟨t, fr, rfl, ht0, ht1, rfl, hfr, HFR2, HI⟩ := hrel
        have g0 := (blk_cell HI.out.1 0).trans (show _ = some (.int .i64 G.p) from rfl)
        have g1 := (blk_cell HI.out.1 1).trans (show _ = some (.int .i64 G.f) from rfl)
        have g2 := (blk_cell HI.out.1 2).trans (show _ = some (.slice X2 G.ws.length Xc2) from rfl)
        have g3 := (blk_cell HI.out.1 3).trans (show _ = some (.slice X3 G.ks.length Xc3) from rfl)
        have g4 := (blk_cell HI.out.1 4).trans (show _ = some (.slice X4 G.ac.length Xc4) from rfl)
        by_cases hlt : t < m + G.f
        · have d1 : decide (t < m + G.f) = true := decide_eq_true hlt
          have hst := HST.out t (by omega) (by omega)
          have CWt := Aside0.mk (CW.out t)
          generalize (whoN G t).getD 0 = a at CWt
          generalize (whoN G t).isSome = b at CWt hst
          have ht2 : wrap64 (t + 1) = t + 1 := w64_in (by omega) (by omega)
          have hf2 : wrap64 (fr + 1) = fr + 1 := w64_in (by omega) (by omega)
          have HSTA := Aside0.mk hst
          clear hst
          cases b
          · have hstf : allO G (t + 1) = allO G t + 0 := HSTA.out
            have HE : Aside0 (fr + 1 = (t + 1 - m) - (allO G (t + 1) - allO G m)) := ⟨by have := HFR2.out; omega⟩
            clear hstf
            go_wp2_with (first | (go_at_call 14; (with_reducible refine (CWt.out _ HI.out.2).mono ?_); rintro e w8 ⟨rfl, hb⟩; have H8 := Aside0.mk (And.intro (blk_below HI.out.1 hb) (below_step HI.out.2 hb)); clear hb g0 g1 g2 g3 g4))
            go_roundw
            case rel => exact ⟨t + 1, fr + 1, by first | rfl | rw [ht2] | go_num, by omega, by omega, by first | rfl | rw [hf2], by omega, HE, H8⟩
            case measure => simp [intOf]; omega
          · have hstf : allO G (t + 1) = allO G t + 1 := HSTA.out
            have HE : Aside0 (fr = (t + 1 - m) - (allO G (t + 1) - allO G m)) := ⟨by have := HFR2.out; omega⟩
            clear hstf
            go_wp2_with (first | (go_at_call 14; (with_reducible refine (CWt.out _ HI.out.2).mono ?_); rintro e w8 ⟨rfl, hb⟩; have H8 := Aside0.mk (And.intro (blk_below HI.out.1 hb) (below_step HI.out.2 hb)); clear hb g0 g1 g2 g3 g4))
            go_roundw
            case rel => exact ⟨t + 1, fr, by first | rfl | rw [ht2] | go_num, by omega, by omega, rfl, by omega, HE, H8⟩
            case measure => simp [intOf]; omega
        · have d1 : decide (t < m + G.f) = false := decide_eq_false hlt
          obtain rfl : t = m + G.f := by omega
          have hsum : fr = G.f - cntO G := by have h1 := HFR2.out; have h2 := HFR.out; omega
          have hcs : wrap64 (cntO G + fr) = G.f := by rw [hsum, w64_in (by omega) (by omega)]; omega
          have hcsI : IntKind.i64.wrap (cntO G + fr) = G.f := (IntWalk.i64_left _).trans hcs
          clear hsum hlt
          have CCp := Aside0.mk (CC.out G.p)
          rw [HFAR.out] at CCp
          go_wp2_with (first | (go_at_call 17; (with_reducible refine (CCp.out _ HI.out.2).mono ?_); rintro e w8 ⟨rfl, hb⟩; have H8 := Aside0.mk (below_step HI.out.2 hb); clear hb g0 g1 g2 g3 g4))
          go_ret
          exact ⟨rfl, below_step B5.out H8.out⟩
end Go.Proofs.YtmmkbgilcggkkaaDoor.Wn
