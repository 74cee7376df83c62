/- ConfigWays: the walk. -/
import Derived.Test.YtehcgojcmcahnaaDoorCfGx
import Derived.Test.YtehcgojcmcahnaaDoorCfM3
set_option linter.unusedVariables false
set_option linter.unusedSimpArgs false
namespace Go.Proofs.YtehcgojcmcahnaaDoor.Cf
open Go.RowKit Go.Proofs.YtehcgojcmcahnaaDoorW.PrintWords Go.Proofs.YtehcgojcmcahnaaDoorW.PrintLast Go.Proofs.YtehcgojcmcahnaaDoorW.PrintMore Go.Proofs.YtehcgojcmcahnaaDoor.Cz Go.Proofs.YtehcgojcmcahnaaDoor.PConfigSame
attribute [local go_sem] max2_int min2_int max_two min_two max_three min_three max_four min_four Tryd.underlying26 Tryd.underlying33 Tryd.underlying35 Tryd.underlying30
set_option maxHeartbeats 16000000 in
set_option maxRecDepth 100000 in
theorem configWays_any {C : Cfg} {A2 A3 A4 : Option Addr} {Ac2 Ac3 Ac4 : Nat} {w : World} (h : CX w C A2 Ac2 A3 Ac3 A4 Ac4)
    (l2 : C.ws.length ≤ maxLen) (l3 : C.ks.length ≤ maxLen) (l4 : C.ac.length ≤ maxLen) (hg : LG w) :
    Calls Tryd.prog 5 #[.agg #[.int .i64 C.p, .int .i64 C.f, .slice A2 C.ws.length Ac2, .slice A3 C.ks.length Ac3, .slice A4 C.ac.length Ac4]] w fun e w' => e = .returned (.bool true) ∧ Below w.heap.size w w' := by
  have FA := fun w1 (hb : Below w.heap.size w w1) => few_any (h.below hb) l2 l3 l4
  obtain ⟨G, hG, GA⟩ := good_any h.few
  replace FA := Aside0.mk FA
  replace GA := Aside0.mk GA
  have HG := Aside0.mk hg
  have HGG := Aside0.mk hG
  have q2 := hG.w
  have q3 := hG.k
  have q4 : 1 ≤ G.ac.length ∧ G.ac.length ≤ 4 := by
    have := hG.a
    have := hG.p
    omega
  have q5 := hG.p
  clear h l2 l3 l4 hg hG
  have B1 := Aside0.mk (And.intro (blk_new w (.cells #[.int .i64 C.p, .int .i64 C.f, .slice A2 C.ws.length Ac2, .slice A3 C.ks.length Ac3, .slice A4 C.ac.length Ac4] 26)) (below_alloc (Below.refl w.heap.size w) (.cells #[.int .i64 C.p, .int .i64 C.f, .slice A2 C.ws.length Ac2, .slice A3 C.ks.length Ac3, .slice A4 C.ac.length Ac4] 26)))
  go_enter Tryd.func5, Tryd.ntmps5
  go_upto_region 3 with (first | (go_at_call 8; refine (lives_any (HG.out.below B1.out.2)).mono ?_; rintro e w2 ⟨rfl, hb⟩; have B2_ := Aside0.mk (And.intro (blk_below B1.out.1 hb) (below_step B1.out.2 hb)); clear hb))
  have s0 := B2_.out.1
  have s00 := (blk_cell s0 0).trans (show _ = some (.int .i64 C.p) from rfl)
  have s01 := (blk_cell s0 1).trans (show _ = some (.int .i64 C.f) from rfl)
  have s02 := (blk_cell s0 2).trans (show _ = some (.slice A2 C.ws.length Ac2) from rfl)
  have s03 := (blk_cell s0 3).trans (show _ = some (.slice A3 C.ks.length Ac3) from rfl)
  have s04 := (blk_cell s0 4).trans (show _ = some (.slice A4 C.ac.length Ac4) from rfl)
  clear s0 B1
  go_upto_region 4 with (first | (go_at_call 11; refine (FA.out _ B2_.out.2).mono ?_; rintro e w3 ⟨rfl, hb⟩; have B3 := Aside0.mk (below_step B2_.out.2 hb); clear hb) | (go_at_call 10; refine (GA.out _ B3.out).mono ?_; rintro e w4 ⟨X2, Xc2, X3, Xc3, X4, Xc4, rfl, hx, hb⟩; have HX := Aside0.mk hx; have B4 := Aside0.mk (below_step B3.out hb); clear hb hx))
  have HGX : GX w (w4.alloc (.cells #[.int .i64 G.p, .int .i64 G.f, .slice X2 G.ws.length Xc2, .slice X3 G.ks.length Xc3, .slice X4 G.ac.length Xc4] 26)) w4.heap.size G X2 Xc2 X3 Xc3 X4 Xc4 := ⟨blk_new _ _, HX.out.below (below_alloc (Below.refl _ _) _), below_alloc B4.out _⟩
  clear HX B2_ B3 B4 FA GA s00 s01 s02 s03 s04
  revert HGX
  generalize (w4.alloc (.cells #[.int .i64 G.p, .int .i64 G.f, .slice X2 G.ws.length Xc2, .slice X3 G.ks.length Xc3, .slice X4 G.ac.length Xc4] 26)) = W5
  generalize w4.heap.size = gb
  intro HGX
  replace HGX := Aside0.mk HGX
  go_wp2
  go_loopw [4] (fun v4 wr => ∃ j : Nat, v4 = .int .i64 j ∧ j ≤ G.ks.length ∧ Aside0 (GX w wr gb G X2 Xc2 X3 Xc3 X4 Xc4)) (fun v4 _ => G.ks.length - (intOf v4).toNat)
  case atStart => exact ⟨0, rfl, by omega, HGX⟩
  case round =>
    clear HGX
    obtain ⟨j, rfl, hj, HGX⟩ := hrel
    have b0 := (blk_cell HGX.out.bg 0).trans (show _ = some (.int .i64 G.p) from rfl)
    have b1 := (blk_cell HGX.out.bg 1).trans (show _ = some (.int .i64 G.f) from rfl)
    have b2 := (blk_cell HGX.out.bg 2).trans (show _ = some (.slice X2 G.ws.length Xc2) from rfl)
    have b3 := (blk_cell HGX.out.bg 3).trans (show _ = some (.slice X3 G.ks.length Xc3) from rfl)
    have b4 := (blk_cell HGX.out.bg 4).trans (show _ = some (.slice X4 G.ac.length Xc4) from rfl)
    by_cases hlt : j < G.ks.length
    · have d1 : decide ((j : Int) < (G.ks.length : Int)) = true := decide_eq_true (by omega)
      have d1n : decide (j < G.ks.length) = true := decide_eq_true hlt
      have hcs := at_T35 HGX.out.cx.k (j : Int) (by omega) (by omega)
      rw [show rd_T35 G.ks (j : Int) = G.ks[j] by simp [rd_T35, hlt], Int.toNat_natCast] at hcs
      have HCH := Aside0.mk (HGG.out.chan (List.getElem_mem hlt))
      generalize G.ks[j] = x at hcs HCH
      obtain ⟨ad, rfl, e0, e1, e2, e3, e4, e5, e6, e7, e8, e9, e10⟩ := hcs
      clear e0 e3 e4 e5 e6 e7 e8 e9 e10
      have hj0 : 0 ≤ (j : Int) := by omega
      have hj1 : (j : Int) < G.ks.length := by omega
      go_upto_region 7 with (first | fail)
      have e1' := e1
      have e2' := e2
      go_still_tail 13, (by kernel_rfl)
      repeat still_step
      try refine wpStill_nil ?_
      change wpList _ _ _ _ _ wr.drew
      replace HGX := Aside0.mk (HGX.out.far (below_drew (Below.refl _ _)))
      go_wp2_with (first | (go_at_call 15; refine (HGX.out.path HG.out (by omega) (by omega) (by omega) _ _).mono ?_; rintro e w' ⟨rfl, hx⟩; replace HGX := Aside0.mk hx; clear hx; (try rw [HCH.out])))
      go_roundw
      case rel => exact ⟨j + 1, by go_num, by omega, HGX⟩
      case measure => simp [intOf]; omega
    · have d1 : decide ((j : Int) < (G.ks.length : Int)) = false := decide_eq_false (by omega)
      have d1n : decide (j < G.ks.length) = false := decide_eq_false hlt
      go_wp2
      clear d1 d1n hlt hj b0 b1 b2 b3 b4
      go_loopw [5] (fun v5 wr => ∃ a : Nat, v5 = .int .i64 a ∧ (a : Int) ≤ G.p ∧ Aside0 (GX w wr gb G X2 Xc2 X3 Xc3 X4 Xc4)) (fun v5 _ => 5 - (intOf v5).toNat)
      case atStart => exact ⟨0, rfl, by omega, HGX⟩
      case round =>
        clear HGX
        obtain ⟨a, rfl, ha, HGX⟩ := hrel
        have a0 : 0 ≤ (a : Int) := by omega
        have b0 := (blk_cell HGX.out.bg 0).trans (show _ = some (.int .i64 G.p) from rfl)
        have b1 := (blk_cell HGX.out.bg 1).trans (show _ = some (.int .i64 G.f) from rfl)
        have b2 := (blk_cell HGX.out.bg 2).trans (show _ = some (.slice X2 G.ws.length Xc2) from rfl)
        have b3 := (blk_cell HGX.out.bg 3).trans (show _ = some (.slice X3 G.ks.length Xc3) from rfl)
        have b4 := (blk_cell HGX.out.bg 4).trans (show _ = some (.slice X4 G.ac.length Xc4) from rfl)
        by_cases hla : (a : Int) < G.p
        · have d1 : decide ((a : Int) < G.p) = true := decide_eq_true hla
          have p1 := HGG.out.self (a := (a : Int)) (by omega)
          have p2 := path_over G (a : Int)
          have p3 := path_under G (a : Int)
          have HP1 := Aside0.mk p1
          have HP2 := Aside0.mk p2
          have HP3 := Aside0.mk p3
          clear p1 p2 p3
          go_upto_region 14 with (first | (go_at_call 15; refine (HGX.out.path HG.out (by omega) (by omega) (by omega) _ _).mono ?_; rintro e w' ⟨rfl, hx⟩; replace HGX := Aside0.mk hx; clear hx; (first | rw [HP1.out] | rw [HP2.out] | rw [HP3.out]); clear b0 b1 b2 b3 b4; have b0 := (blk_cell HGX.out.bg 0).trans (show _ = some (.int .i64 G.p) from rfl); have b1 := (blk_cell HGX.out.bg 1).trans (show _ = some (.int .i64 G.f) from rfl); have b2 := (blk_cell HGX.out.bg 2).trans (show _ = some (.slice X2 G.ws.length Xc2) from rfl); have b3 := (blk_cell HGX.out.bg 3).trans (show _ = some (.slice X3 G.ks.length Xc3) from rfl); have b4 := (blk_cell HGX.out.bg 4).trans (show _ = some (.slice X4 G.ac.length Xc4) from rfl)))
          go_wp2
          clear b0 b1 b2 b3 b4 HP1 HP2 HP3
          go_loopw [6] (fun v6 wr => ∃ b : Nat, v6 = .int .i64 b ∧ (b : Int) ≤ G.p ∧ Aside0 (GX w wr gb G X2 Xc2 X3 Xc3 X4 Xc4)) (fun v6 _ => 5 - (intOf v6).toNat)
          case atStart => exact ⟨0, rfl, by omega, HGX⟩
          case round =>
            clear HGX
            obtain ⟨b, rfl, hb, HGX⟩ := hrel
            have b00 : 0 ≤ (b : Int) := by omega
            have b0 := (blk_cell HGX.out.bg 0).trans (show _ = some (.int .i64 G.p) from rfl)
            have b1 := (blk_cell HGX.out.bg 1).trans (show _ = some (.int .i64 G.f) from rfl)
            have b2 := (blk_cell HGX.out.bg 2).trans (show _ = some (.slice X2 G.ws.length Xc2) from rfl)
            have b3 := (blk_cell HGX.out.bg 3).trans (show _ = some (.slice X3 G.ks.length Xc3) from rfl)
            have b4 := (blk_cell HGX.out.bg 4).trans (show _ = some (.slice X4 G.ac.length Xc4) from rfl)
            by_cases hlb : (b : Int) < G.p
            · have d2 : decide ((b : Int) < G.p) = true := decide_eq_true hlb
              go_wp2
              clear b0 b1 b2 b3 b4
              go_loopw [7] (fun v7 wr => ∃ d : Nat, v7 = .int .i64 d ∧ (d : Int) ≤ G.p ∧ Aside0 (GX w wr gb G X2 Xc2 X3 Xc3 X4 Xc4)) (fun v7 _ => 5 - (intOf v7).toNat)
              case atStart => exact ⟨0, rfl, by omega, HGX⟩
              case round =>
                clear HGX
                obtain ⟨d, rfl, hd, HGX⟩ := hrel
                have d00 : 0 ≤ (d : Int) := by omega
                have b0 := (blk_cell HGX.out.bg 0).trans (show _ = some (.int .i64 G.p) from rfl)
                have b1 := (blk_cell HGX.out.bg 1).trans (show _ = some (.int .i64 G.f) from rfl)
                have b2 := (blk_cell HGX.out.bg 2).trans (show _ = some (.slice X2 G.ws.length Xc2) from rfl)
                have b3 := (blk_cell HGX.out.bg 3).trans (show _ = some (.slice X3 G.ks.length Xc3) from rfl)
                have b4 := (blk_cell HGX.out.bg 4).trans (show _ = some (.slice X4 G.ac.length Xc4) from rfl)
                by_cases hld : (d : Int) < G.p
                · have d3 : decide ((d : Int) < G.p) = true := decide_eq_true hld
                  cases hab : pathB G (a : Int) (b : Int)
                  · go_wp2_with (first | (go_at_call 15; refine (HGX.out.path HG.out (by omega) (by omega) (by omega) _ _).mono ?_; rintro e w' ⟨rfl, hx⟩; replace HGX := Aside0.mk hx; clear hx; clear b0 b1 b2 b3 b4; have b0 := (blk_cell HGX.out.bg 0).trans (show _ = some (.int .i64 G.p) from rfl); have b1 := (blk_cell HGX.out.bg 1).trans (show _ = some (.int .i64 G.f) from rfl); have b2 := (blk_cell HGX.out.bg 2).trans (show _ = some (.slice X2 G.ws.length Xc2) from rfl); have b3 := (blk_cell HGX.out.bg 3).trans (show _ = some (.slice X3 G.ks.length Xc3) from rfl); have b4 := (blk_cell HGX.out.bg 4).trans (show _ = some (.slice X4 G.ac.length Xc4) from rfl)))
                    go_roundw
                    case rel => exact ⟨d + 1, by go_num, by omega, HGX⟩
                    case measure => simp [intOf]; omega
                  · cases hbd : pathB G (b : Int) (d : Int)
                    · go_wp2_with (first | (go_at_call 15; refine (HGX.out.path HG.out (by omega) (by omega) (by omega) _ _).mono ?_; rintro e w' ⟨rfl, hx⟩; replace HGX := Aside0.mk hx; clear hx; clear b0 b1 b2 b3 b4; have b0 := (blk_cell HGX.out.bg 0).trans (show _ = some (.int .i64 G.p) from rfl); have b1 := (blk_cell HGX.out.bg 1).trans (show _ = some (.int .i64 G.f) from rfl); have b2 := (blk_cell HGX.out.bg 2).trans (show _ = some (.slice X2 G.ws.length Xc2) from rfl); have b3 := (blk_cell HGX.out.bg 3).trans (show _ = some (.slice X3 G.ks.length Xc3) from rfl); have b4 := (blk_cell HGX.out.bg 4).trans (show _ = some (.slice X4 G.ac.length Xc4) from rfl)))
                      go_roundw
                      case rel => exact ⟨d + 1, by go_num, by omega, HGX⟩
                      case measure => simp [intOf]; omega
                    · have had := HGG.out.trans hab hbd
                      go_wp2_with (first | (go_at_call 15; refine (HGX.out.path HG.out (by omega) (by omega) (by omega) _ _).mono ?_; rintro e w' ⟨rfl, hx⟩; replace HGX := Aside0.mk hx; clear hx; clear b0 b1 b2 b3 b4; have b0 := (blk_cell HGX.out.bg 0).trans (show _ = some (.int .i64 G.p) from rfl); have b1 := (blk_cell HGX.out.bg 1).trans (show _ = some (.int .i64 G.f) from rfl); have b2 := (blk_cell HGX.out.bg 2).trans (show _ = some (.slice X2 G.ws.length Xc2) from rfl); have b3 := (blk_cell HGX.out.bg 3).trans (show _ = some (.slice X3 G.ks.length Xc3) from rfl); have b4 := (blk_cell HGX.out.bg 4).trans (show _ = some (.slice X4 G.ac.length Xc4) from rfl)))
                      go_roundw
                      case rel => exact ⟨d + 1, by go_num, by omega, HGX⟩
                      case measure => simp [intOf]; omega
                · have d3 : decide ((d : Int) < G.p) = false := decide_eq_false hld
                  go_wp2
                  go_roundw
                  case rel => exact ⟨b + 1, by go_num, by omega, HGX⟩
                  case measure => simp [intOf]; omega
            · have d2 : decide ((b : Int) < G.p) = false := decide_eq_false hlb
              go_wp2
              go_roundw
              case rel => exact ⟨a + 1, by go_num, by omega, HGX⟩
              case measure => simp [intOf]; omega
        · have d1 : decide ((a : Int) < G.p) = false := decide_eq_false hla
          go_wp2
          go_ret
          exact ⟨rfl, HGX.out.bel⟩
end Go.Proofs.YtehcgojcmcahnaaDoor.Cf
