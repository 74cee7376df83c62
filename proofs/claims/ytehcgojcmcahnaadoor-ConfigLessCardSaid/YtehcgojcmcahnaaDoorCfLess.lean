/- ConfigLess: the walk. -/
import Derived.Test.YtehcgojcmcahnaaDoorCfIn
import Derived.Test.YtehcgojcmcahnaaDoorCfM3
set_option linter.unusedVariables false
set_option linter.unusedSimpArgs false
namespace Go.Proofs.YtehcgojcmcahnaaDoor.Cf
open Go.RowKit Go.Proofs.YtehcgojcmcahnaaDoorW.PrintWords Go.Proofs.YtehcgojcmcahnaaDoorW.PrintLast Go.Proofs.YtehcgojcmcahnaaDoorW.PrintMore Go.Proofs.YtehcgojcmcahnaaDoor.Cz Go.Proofs.YtehcgojcmcahnaaDoor.PConfigSame
attribute [local go_sem] max2_int min2_int max_two min_two max_three min_three max_four min_four Tryd.underlying26 Tryd.underlying33 Tryd.underlying35 Tryd.underlying30
/-- Both configs: the whole one, and the one with a channel less. -/
structure LX (w0 W : World) (gb lb : Nat) (G L : Cfg) (X2 : Option Addr) (Xc2 : Nat) (X3 : Option Addr) (Xc3 : Nat) (X4 : Option Addr) (Xc4 : Nat) (Z2 : Option Addr) (Zc2 : Nat) (Z3 : Option Addr) (Zc3 : Nat) (Z4 : Option Addr) (Zc4 : Nat) : Prop where
  g : GX w0 W gb G X2 Xc2 X3 Xc3 X4 Xc4
  l : GX w0 W lb L Z2 Zc2 Z3 Zc3 Z4 Zc4
theorem LX.far {w0 W W' : World} {gb lb : Nat} {G L : Cfg} {X2 X3 X4 Z2 Z3 Z4 : Option Addr} {Xc2 Xc3 Xc4 Zc2 Zc3 Zc4 : Nat} (h : LX w0 W gb lb G L X2 Xc2 X3 Xc3 X4 Xc4 Z2 Zc2 Z3 Zc3 Z4 Zc4) (hb : Below W.heap.size W W') : LX w0 W' gb lb G L X2 Xc2 X3 Xc3 X4 Xc4 Z2 Zc2 Z3 Zc3 Z4 Zc4 := ⟨h.g.far hb, h.l.far hb⟩
theorem path_less {G L : Cfg} (hG : GoodC G) (hp : L.p = G.p) (hs : ∀ x ∈ L.ks, x ∈ G.ks) {a b : Int} (h : pathB L a b = true) : pathB G a b = true := by
  classical
  unfold pathB at h
  have h1 := of_decide_eq_true h
  exact (pathB_iff hG.e0).2 ⟨by rw [← hp]; exact h1.2.1, by rw [← hp]; exact h1.2.2.1, h1.2.2.2.mono hs⟩
theorem pick_len (k n : Nat) (h : k < n) : k + (n - (k + 1)) = n - 1 := by omega
/-- Those from which paths lead to b; how many of the first j. -/
noncomputable def intL (G : Cfg) (b : Int) : List Int := il (fun a => pathB G a b) 4
noncomputable def intN (G : Cfg) (b : Int) (j : Nat) : Nat := (il (fun a => pathB G a b) j).length
theorem intN_zero (G : Cfg) (b : Int) : intN G b 0 = 0 := rfl
theorem intN_yes {G : Cfg} {b : Int} {j : Nat} (h : pathB G (j : Int) b = true) : intN G b (j + 1) = intN G b j + 1 := by
  unfold intN
  rw [il_yes (P := fun a => pathB G a b) h, List.length_append]
  rfl
theorem intN_no {G : Cfg} {b : Int} {j : Nat} (h : pathB G (j : Int) b = false) : intN G b (j + 1) = intN G b j := by
  unfold intN
  rw [il_no (P := fun a => pathB G a b) h]
theorem intN_le {G : Cfg} {b : Int} {j : Nat} : intN G b j ≤ j := il_len _ _
theorem intN_end {G : Cfg} {b : Int} {p : Nat} (hp : (p : Int) = G.p) (h4 : p ≤ 4) : intN G b 4 = intN G b p := by
  unfold intN
  rw [il_end (P := fun a => pathB G a b) (p := p) (fun j hj => path_no fun hh => by omega) h4]
theorem intN_get {G : Cfg} {b : Int} {j : Nat} (hj : j < 4) (h : pathB G (j : Int) b = true) : intN G b j < intN G b 4 ∧ (intL G b)[intN G b j]? = some (j : Int) := by
  have h1 := il_get (P := fun a => pathB G a b) (j := j) (m := 4) hj h
  exact ⟨(List.getElem?_eq_some_iff.1 h1).1, h1⟩
theorem into_cut {w w' : World} {v : Value} {G : Cfg} {b : Int} (h : OK (Kd.int .i64) 3 w w' v (il (fun a => pathB G a b) 4)) : ∃ A c, v = .slice A (intN G b 4) c ∧ intN G b 4 ≤ c ∧ Kd.C (Kd.int .i64) w' A (intN G b 4) (intL G b) := by
  obtain ⟨A, c, rfl, h1, h2⟩ := h.reads
  exact ⟨A, c, rfl, h2, h1⟩
set_option maxHeartbeats 16000000 in
set_option maxRecDepth 100000 in
theorem configLess_any (at_ : Int) {C : Cfg} {A2 A3 A4 : Option Addr} {Ac2 Ac3 Ac4 : Nat} {w : World} (h : CX w C A2 Ac2 A3 Ac3 A4 Ac4)
    (l2 : C.ws.length ≤ maxLen) (l3 : C.ks.length ≤ maxLen) (l4 : C.ac.length ≤ maxLen) (hg : LG w) :
    Calls Tryd.prog 7 #[.agg #[.int .i64 C.p, .int .i64 C.f, .slice A2 C.ws.length Ac2, .slice A3 C.ks.length Ac3, .slice A4 C.ac.length Ac4], .int .i64 at_] w fun e w' => e = .returned (.bool true) ∧ Below w.heap.size w w' := by
  have FA := fun w1 (hb : Below w.heap.size w w1) => few_any (h.below hb) l2 l3 l4
  obtain ⟨G, hG, GA⟩ := good_any h.few
  replace FA := Aside0.mk FA
  replace GA := Aside0.mk GA
  have HG := Aside0.mk hg
  have HGG := Aside0.mk hG
  have q2 := hG.w
  have q3 := hG.k
  have q4 : 1 ≤ G.ac.length ∧ G.ac.length ≤ 4 := by
    have := hG.a
    have := hG.p
    omega
  have q5 := hG.p
  clear h l2 l3 l4 hg hG
  have B1 := Aside0.mk (And.intro (blk_new w (.cells #[.int .i64 C.p, .int .i64 C.f, .slice A2 C.ws.length Ac2, .slice A3 C.ks.length Ac3, .slice A4 C.ac.length Ac4] 26)) (below_alloc (Below.refl w.heap.size w) (.cells #[.int .i64 C.p, .int .i64 C.f, .slice A2 C.ws.length Ac2, .slice A3 C.ks.length Ac3, .slice A4 C.ac.length Ac4] 26)))
  go_enter Tryd.func7, Tryd.ntmps7
  go_upto_region 3 with (first | (go_at_call 8; refine (lives_any (HG.out.below B1.out.2)).mono ?_; rintro e w2 ⟨rfl, hb⟩; have B2_ := Aside0.mk (And.intro (blk_below B1.out.1 hb) (below_step B1.out.2 hb)); clear hb))
  have s0 := B2_.out.1
  have s00 := (blk_cell s0 0).trans (show _ = some (.int .i64 C.p) from rfl)
  have s01 := (blk_cell s0 1).trans (show _ = some (.int .i64 C.f) from rfl)
  have s02 := (blk_cell s0 2).trans (show _ = some (.slice A2 C.ws.length Ac2) from rfl)
  have s03 := (blk_cell s0 3).trans (show _ = some (.slice A3 C.ks.length Ac3) from rfl)
  have s04 := (blk_cell s0 4).trans (show _ = some (.slice A4 C.ac.length Ac4) from rfl)
  clear s0 B1
  go_upto_region 4 with (first | (go_at_call 11; refine (FA.out _ B2_.out.2).mono ?_; rintro e w3 ⟨rfl, hb⟩; have B3 := Aside0.mk (below_step B2_.out.2 hb); clear hb) | (go_at_call 10; refine (GA.out _ B3.out).mono ?_; rintro e w4 ⟨X2, Xc2, X3, Xc3, X4, Xc4, rfl, hx, hb⟩; have HX := Aside0.mk hx; have B4 := Aside0.mk (below_step B3.out hb); clear hb hx))
  have HGX : GX w (w4.alloc (.cells #[.int .i64 G.p, .int .i64 G.f, .slice X2 G.ws.length Xc2, .slice X3 G.ks.length Xc3, .slice X4 G.ac.length Xc4] 26)) w4.heap.size G X2 Xc2 X3 Xc3 X4 Xc4 := ⟨blk_new _ _, HX.out.below (below_alloc (Below.refl _ _) _), below_alloc B4.out _⟩
  clear HX B2_ B3 B4 FA GA s00 s01 s02 s03 s04
  revert HGX
  generalize (w4.alloc (.cells #[.int .i64 G.p, .int .i64 G.f, .slice X2 G.ws.length Xc2, .slice X3 G.ks.length Xc3, .slice X4 G.ac.length Xc4] 26)) = W5
  generalize w4.heap.size = gb
  intro HGX
  replace HGX := Aside0.mk HGX
  have b0 := (blk_cell HGX.out.bg 0).trans (show _ = some (.int .i64 G.p) from rfl)
  have b1 := (blk_cell HGX.out.bg 1).trans (show _ = some (.int .i64 G.f) from rfl)
  have b2 := (blk_cell HGX.out.bg 2).trans (show _ = some (.slice X2 G.ws.length Xc2) from rfl)
  have b3 := (blk_cell HGX.out.bg 3).trans (show _ = some (.slice X3 G.ks.length Xc3) from rfl)
  have b4 := (blk_cell HGX.out.bg 4).trans (show _ = some (.slice X4 G.ac.length Xc4) from rfl)
  go_upto_region 5 with (first | (go_at_call 9; refine (clone_any HGX.out.cx (by omega) (by omega) (by omega)).mono ?_; rintro e w6 ⟨Y2, Yc2, Y3, Yc3, Y4, Yc4, rfl, hy⟩; have HY := Aside0.mk (show CX w6 G Y2 Yc2 Y3 Yc3 Y4 Yc4 from ⟨hy.o2.ci.1, hy.o2.ci.2.2, hy.o3.ci.1, hy.o3.ci.2.2, hy.o4.ci.1, hy.o4.ci.2.2⟩); have HGX6 := Aside0.mk (HGX.out.far hy.o2.bel); clear hy))
  clear b0 b1 b2 b3 b4
  have bl0 := blk_new w6 (.cells #[.int .i64 G.p, .int .i64 G.f, .slice Y2 G.ws.length Yc2, .slice Y3 G.ks.length Yc3, .slice Y4 G.ac.length Yc4] 26)
  have HB7 := below_alloc (Below.refl w6.heap.size w6) (.cells #[.int .i64 G.p, .int .i64 G.f, .slice Y2 G.ws.length Yc2, .slice Y3 G.ks.length Yc3, .slice Y4 G.ac.length Yc4] 26)
  revert bl0 HB7
  generalize (w6.alloc (.cells #[.int .i64 G.p, .int .i64 G.f, .slice Y2 G.ws.length Yc2, .slice Y3 G.ks.length Yc3, .slice Y4 G.ac.length Yc4] 26)) = W7
  intro bl0 HB7
  have BL := Aside0.mk bl0
  replace HB7 := Aside0.mk HB7
  have b3 := (blk_cell (HGX6.out.far HB7.out).bg 3).trans (show _ = some (.slice X3 G.ks.length Xc3) from rfl)
  by_cases hz0 : G.ks.length = 0
  · have hz : decide (0 < (G.ks.length : Int)) = false := decide_eq_false (by omega)
    have hzn : decide (0 < G.ks.length) = false := decide_eq_false (by omega)
    have hznn : decide (G.ks.length = 0) = true := decide_eq_true hz0
    have HLX1 : ∃ (L : Cfg) (Xd3 : Nat) (Z2 : Option Addr) (Zc2 : Nat) (Z3 : Option Addr) (Zc3 : Nat) (Z4 : Option Addr) (Zc4 : Nat), LX w W7 gb w6.heap.size G L X2 Xc2 X3 Xd3 X4 Xc4 Z2 Zc2 Z3 Zc3 Z4 Zc4 ∧ L.p = G.p ∧ (∀ x ∈ L.ks, x ∈ G.ks) ∧ L.ws.length ≤ 1000 ∧ L.ks.length ≤ 1000 ∧ L.ac.length ≤ 1000 :=
      ⟨G, _, _, _, _, _, _, _, ⟨HGX6.out.far HB7.out, BL.out, HY.out.below HB7.out, below_step HGX6.out.bel HB7.out⟩, rfl, fun x hx => hx, by omega, by omega, by omega⟩
    clear HB7 BL
    go_wp2
    clear hz0 hz hzn hznn
    obtain ⟨L, Xd3, Z2, Zc2, Z3, Zc3, Z4, Zc4, HLX, hLp, hLs, m2, m3, m4⟩ := HLX1
    have HLS := Aside0.mk (fun (a b : Int) (h : pathB L a b = true) => path_less HGG.out hLp hLs h)
    replace HLX := Aside0.mk HLX
    have M := Aside0.mk (And.intro m2 (And.intro m3 m4))
    clear hLp hLs m2 m3 m4
    generalize w6.heap.size = lb at HLX ⊢
    go_loopw [9] (fun v9 wr => ∃ b : Nat, v9 = .int .i64 b ∧ (b : Int) ≤ G.p ∧ Aside0 (LX w wr gb lb G L X2 Xc2 X3 Xd3 X4 Xc4 Z2 Zc2 Z3 Zc3 Z4 Zc4)) (fun v9 _ => 5 - (intOf v9).toNat)
    case atStart => exact ⟨0, rfl, by omega, HLX⟩
    case round =>
      clear HLX
      obtain ⟨b, rfl, hb, HLX⟩ := hrel
      have b00 : 0 ≤ (b : Int) := by omega
      have b0 := (blk_cell HLX.out.g.bg 0).trans (show _ = some (.int .i64 G.p) from rfl)
      have b1 := (blk_cell HLX.out.g.bg 1).trans (show _ = some (.int .i64 G.f) from rfl)
      have b2 := (blk_cell HLX.out.g.bg 2).trans (show _ = some (.slice X2 G.ws.length Xc2) from rfl)
      have b3 := (blk_cell HLX.out.g.bg 3).trans (show _ = some (.slice X3 G.ks.length Xd3) from rfl)
      have b4 := (blk_cell HLX.out.g.bg 4).trans (show _ = some (.slice X4 G.ac.length Xc4) from rfl)
      by_cases hlb : (b : Int) < G.p
      · have d1 : decide ((b : Int) < G.p) = true := decide_eq_true hlb
        go_wp2_with (first | (go_at_call 18; refine (into_any HLX.out.g.cx (HG.out.below HLX.out.g.bel) (by omega) (by omega) (by omega) _).mono ?_; rintro e w' ⟨v, rfl, ho⟩; obtain ⟨A, c, rfl, hcl, hcr⟩ := into_cut ho; have HCR := Aside0.mk hcr; replace HLX := Aside0.mk (HLX.out.far ho.bel); clear ho hcr; clear b0 b1 b2 b3 b4))
        go_wp2
        go_loopw [11, 12] (fun v11 v12 wr => ∃ a : Nat, v12 = .int .i64 a ∧ (a : Int) ≤ G.p ∧ v11 = .int .i64 (intN G (b : Int) a) ∧ Aside0 (LX w wr gb lb G L X2 Xc2 X3 Xd3 X4 Xc4 Z2 Zc2 Z3 Zc3 Z4 Zc4) ∧ Aside0 (Kd.C (Kd.int .i64) wr A (intN G (b : Int) 4) (intL G (b : Int)))) (fun _ v12 _ => 5 - (intOf v12).toNat)
        case atStart => exact ⟨0, rfl, by omega, by rw [intN_zero]; rfl, HLX, HCR⟩
        case round =>
          clear HLX HCR
          rename_i gv11 gv12
          obtain ⟨a, rfl, ha, rfl, HLX, HCR⟩ := hrel
          have a00 : 0 ≤ (a : Int) := by omega
          have hna : intN G (b : Int) a ≤ 4 := Nat.le_trans intN_le (by omega)
          have hn4 : intN G (b : Int) 4 ≤ 4 := intN_le
          have b0 := (blk_cell HLX.out.g.bg 0).trans (show _ = some (.int .i64 G.p) from rfl)
          have b1 := (blk_cell HLX.out.g.bg 1).trans (show _ = some (.int .i64 G.f) from rfl)
          have b2 := (blk_cell HLX.out.g.bg 2).trans (show _ = some (.slice X2 G.ws.length Xc2) from rfl)
          have b3 := (blk_cell HLX.out.g.bg 3).trans (show _ = some (.slice X3 G.ks.length Xd3) from rfl)
          have b4 := (blk_cell HLX.out.g.bg 4).trans (show _ = some (.slice X4 G.ac.length Xc4) from rfl)
          have l0 := (blk_cell HLX.out.l.bg 0).trans (show _ = some (.int .i64 L.p) from rfl)
          have l1 := (blk_cell HLX.out.l.bg 1).trans (show _ = some (.int .i64 L.f) from rfl)
          have l2 := (blk_cell HLX.out.l.bg 2).trans (show _ = some (.slice Z2 L.ws.length Zc2) from rfl)
          have l3 := (blk_cell HLX.out.l.bg 3).trans (show _ = some (.slice Z3 L.ks.length Zc3) from rfl)
          have l4 := (blk_cell HLX.out.l.bg 4).trans (show _ = some (.slice Z4 L.ac.length Zc4) from rfl)
          by_cases hla : (a : Int) < G.p
          · have d2 : decide ((a : Int) < G.p) = true := decide_eq_true hla
            have T1 : True := trivial
            cases hPG : pathB G (a : Int) (b : Int)
            · cases hPL : pathB L (a : Int) (b : Int)
              · go_wp2_with (first | (go_at_call 15; have _t := T1; clear _t T1; refine (path_any HLX.out.l.cx (HG.out.below HLX.out.l.bel) M.out.2.1 M.out.2.2 M.out.1 _ _).mono ?_; rintro e w' ⟨rfl, hb⟩; replace HLX := Aside0.mk (HLX.out.far hb); replace HCR := Aside0.mk (Kd.C_below HCR.out hb); clear hb b0 b1 b2 b3 b4 l0 l1 l2 l3 l4; have b0 := (blk_cell HLX.out.g.bg 0).trans (show _ = some (.int .i64 G.p) from rfl); have b1 := (blk_cell HLX.out.g.bg 1).trans (show _ = some (.int .i64 G.f) from rfl); have b2 := (blk_cell HLX.out.g.bg 2).trans (show _ = some (.slice X2 G.ws.length Xc2) from rfl); have b3 := (blk_cell HLX.out.g.bg 3).trans (show _ = some (.slice X3 G.ks.length Xd3) from rfl); have b4 := (blk_cell HLX.out.g.bg 4).trans (show _ = some (.slice X4 G.ac.length Xc4) from rfl); have l0 := (blk_cell HLX.out.l.bg 0).trans (show _ = some (.int .i64 L.p) from rfl); have l1 := (blk_cell HLX.out.l.bg 1).trans (show _ = some (.int .i64 L.f) from rfl); have l2 := (blk_cell HLX.out.l.bg 2).trans (show _ = some (.slice Z2 L.ws.length Zc2) from rfl); have l3 := (blk_cell HLX.out.l.bg 3).trans (show _ = some (.slice Z3 L.ks.length Zc3) from rfl); have l4 := (blk_cell HLX.out.l.bg 4).trans (show _ = some (.slice Z4 L.ac.length Zc4) from rfl)) | (go_at_call 15; refine (path_any HLX.out.g.cx (HG.out.below HLX.out.g.bel) (by omega) (by omega) (by omega) _ _).mono ?_; rintro e w' ⟨rfl, hb⟩; replace HLX := Aside0.mk (HLX.out.far hb); replace HCR := Aside0.mk (Kd.C_below HCR.out hb); clear hb b0 b1 b2 b3 b4 l0 l1 l2 l3 l4; have b0 := (blk_cell HLX.out.g.bg 0).trans (show _ = some (.int .i64 G.p) from rfl); have b1 := (blk_cell HLX.out.g.bg 1).trans (show _ = some (.int .i64 G.f) from rfl); have b2 := (blk_cell HLX.out.g.bg 2).trans (show _ = some (.slice X2 G.ws.length Xc2) from rfl); have b3 := (blk_cell HLX.out.g.bg 3).trans (show _ = some (.slice X3 G.ks.length Xd3) from rfl); have b4 := (blk_cell HLX.out.g.bg 4).trans (show _ = some (.slice X4 G.ac.length Xc4) from rfl); have l0 := (blk_cell HLX.out.l.bg 0).trans (show _ = some (.int .i64 L.p) from rfl); have l1 := (blk_cell HLX.out.l.bg 1).trans (show _ = some (.int .i64 L.f) from rfl); have l2 := (blk_cell HLX.out.l.bg 2).trans (show _ = some (.slice Z2 L.ws.length Zc2) from rfl); have l3 := (blk_cell HLX.out.l.bg 3).trans (show _ = some (.slice Z3 L.ks.length Zc3) from rfl); have l4 := (blk_cell HLX.out.l.bg 4).trans (show _ = some (.slice Z4 L.ac.length Zc4) from rfl)))
                go_roundw
                case rel => exact ⟨a + 1, by go_num, by omega, by rw [intN_no hPG], HLX, HCR⟩
                case measure => simp [intOf]; omega
              · exact absurd (HLS.out _ _ hPL) (by rw [hPG]; decide)
            · cases hPL : pathB L (a : Int) (b : Int)
              all_goals
                go_upto_region 21 with (first | (go_at_call 15; have _t := T1; clear _t T1; refine (path_any HLX.out.l.cx (HG.out.below HLX.out.l.bel) M.out.2.1 M.out.2.2 M.out.1 _ _).mono ?_; rintro e w' ⟨rfl, hb⟩; replace HLX := Aside0.mk (HLX.out.far hb); replace HCR := Aside0.mk (Kd.C_below HCR.out hb); clear hb b0 b1 b2 b3 b4 l0 l1 l2 l3 l4; have b0 := (blk_cell HLX.out.g.bg 0).trans (show _ = some (.int .i64 G.p) from rfl); have b1 := (blk_cell HLX.out.g.bg 1).trans (show _ = some (.int .i64 G.f) from rfl); have b2 := (blk_cell HLX.out.g.bg 2).trans (show _ = some (.slice X2 G.ws.length Xc2) from rfl); have b3 := (blk_cell HLX.out.g.bg 3).trans (show _ = some (.slice X3 G.ks.length Xd3) from rfl); have b4 := (blk_cell HLX.out.g.bg 4).trans (show _ = some (.slice X4 G.ac.length Xc4) from rfl); have l0 := (blk_cell HLX.out.l.bg 0).trans (show _ = some (.int .i64 L.p) from rfl); have l1 := (blk_cell HLX.out.l.bg 1).trans (show _ = some (.int .i64 L.f) from rfl); have l2 := (blk_cell HLX.out.l.bg 2).trans (show _ = some (.slice Z2 L.ws.length Zc2) from rfl); have l3 := (blk_cell HLX.out.l.bg 3).trans (show _ = some (.slice Z3 L.ks.length Zc3) from rfl); have l4 := (blk_cell HLX.out.l.bg 4).trans (show _ = some (.slice Z4 L.ac.length Zc4) from rfl)) | (go_at_call 15; refine (path_any HLX.out.g.cx (HG.out.below HLX.out.g.bel) (by omega) (by omega) (by omega) _ _).mono ?_; rintro e w' ⟨rfl, hb⟩; replace HLX := Aside0.mk (HLX.out.far hb); replace HCR := Aside0.mk (Kd.C_below HCR.out hb); clear hb b0 b1 b2 b3 b4 l0 l1 l2 l3 l4; have b0 := (blk_cell HLX.out.g.bg 0).trans (show _ = some (.int .i64 G.p) from rfl); have b1 := (blk_cell HLX.out.g.bg 1).trans (show _ = some (.int .i64 G.f) from rfl); have b2 := (blk_cell HLX.out.g.bg 2).trans (show _ = some (.slice X2 G.ws.length Xc2) from rfl); have b3 := (blk_cell HLX.out.g.bg 3).trans (show _ = some (.slice X3 G.ks.length Xd3) from rfl); have b4 := (blk_cell HLX.out.g.bg 4).trans (show _ = some (.slice X4 G.ac.length Xc4) from rfl); have l0 := (blk_cell HLX.out.l.bg 0).trans (show _ = some (.int .i64 L.p) from rfl); have l1 := (blk_cell HLX.out.l.bg 1).trans (show _ = some (.int .i64 L.f) from rfl); have l2 := (blk_cell HLX.out.l.bg 2).trans (show _ = some (.slice Z2 L.ws.length Zc2) from rfl); have l3 := (blk_cell HLX.out.l.bg 3).trans (show _ = some (.slice Z3 L.ks.length Zc3) from rfl); have l4 := (blk_cell HLX.out.l.bg 4).trans (show _ = some (.slice Z4 L.ac.length Zc4) from rfl)))
                obtain ⟨hlt, hget⟩ := intN_get (show a < 4 by omega) hPG
                have e1 : decide ((intN G (b : Int) 4 : Int) ≤ (intN G (b : Int) a : Int)) = false := decide_eq_false (by omega)
                have e1n : decide (intN G (b : Int) 4 ≤ intN G (b : Int) a) = false := decide_eq_false (by omega)
                have hrd : rd (intL G (b : Int)) (intN G (b : Int) a : Int) = (a : Int) := by unfold rd; rw [Int.toNat_natCast, List.getD_eq_getElem?_getD, hget]; rfl
                obtain ⟨ad, rfl, hcell0⟩ := Kd.at_int HCR.out (intN G (b : Int) a : Int) (by omega) (by omega)
                rw [hrd, Int.toNat_natCast] at hcell0
                have HY := Aside0.mk (intN_yes hPG)
                clear hget hrd hPG hPL
                go_wp2
                go_roundw
                case rel => exact ⟨a + 1, by go_num, by omega, by rw [HY.out]; go_num, HLX, HCR⟩
                case measure => simp [intOf]; omega
          · have d2 : decide ((a : Int) < G.p) = false := decide_eq_false hla
            have hend := intN_end (b := (b : Int)) (show (a : Int) = G.p by omega) (by omega)
            rw [← hend]
            go_wp2
            go_roundw
            case rel => exact ⟨b + 1, by go_num, by omega, HLX⟩
            case measure => simp [intOf]; omega
      · have d1 : decide ((b : Int) < G.p) = false := decide_eq_false hlb
        go_wp2
        go_ret
        exact ⟨rfl, HLX.out.g.bel⟩
  · have hz : decide (0 < (G.ks.length : Int)) = true := decide_eq_true (by omega)
    have hzn : decide (0 < G.ks.length) = true := decide_eq_true (by omega)
    have hnn : IntKind.u64.wrap (G.ks.length : Int) = (G.ks.length : Int) := by simp [IntKind.wrap, IntKind.bits, IntKind.signed]; omega
    have hnz : (IntKind.u64.wrap (G.ks.length : Int)) ≠ 0 := by rw [hnn]; omega
    obtain ⟨k, hk, hkl⟩ : ∃ k : Nat, wrap64 ((IntKind.u64.wrap at_).tmod (G.ks.length : Int)) = (k : Int) ∧ k < G.ks.length := by
      have r0 : 0 ≤ (IntKind.u64.wrap at_).tmod (G.ks.length : Int) := Int.tmod_nonneg _ (by simp [IntKind.wrap, IntKind.bits, IntKind.signed]; omega)
      have r1 : (IntKind.u64.wrap at_).tmod (G.ks.length : Int) < G.ks.length := Int.tmod_lt_of_pos _ (by omega)
      refine ⟨((IntKind.u64.wrap at_).tmod (G.ks.length : Int)).toNat, ?_, by omega⟩
      unfold wrap64
      omega
    have hcap := HGX6.out.cx.kl
    go_upto_region 8 with (first | fail)
    rw [hk]
    clear hz hzn hnn hnz hk
    have hk0 : 0 ≤ (k : Int) := by omega
    have hk1 : (k : Int) ≤ Xc3 := by omega
    have hk2 : (k : Int) ≤ G.ks.length := by omega
    have HCK : Aside0 (Kd.C k35 W7 X3 k (G.ks.take k)) := ⟨by
      have := Kd.C_take (HGX6.out.far HB7.out).cx.k (Nat.le_of_lt hkl)
      rw [List.length_take, Nat.min_eq_left (Nat.le_of_lt hkl)] at this
      exact this⟩
    go_upto_region 9 with (first | ((with_reducible refine gate_builtin (b := .append) (xs := #[.tmp 32, .tmp 36]) rfl ?_); at_builtin; refine Kd.R_append_rows k35 (Rr := Kd.K k35 W7) (w0 := w6) w6.heap.size rfl (.tmp 32) (.tmp 36) 23 35 (.agg #[(.int .i64 0), (.int .i64 0), (.int .i64 0), (.int .i64 0), (.int .i64 0), (.int .i64 0), (.int .i64 0), (.int .i64 0), (.int .i64 0), (.int .i64 0), (.int .i64 0)]) 88 rfl Tryd.underlying23 info35 rfl (by decide) (by decide) (.slice none 0 0) [] (G.ks.take k) _ _ _ (fun k => w6.heap.size ≤ k) (fun _ => False) rfl rfl ?aO ?aR ?aK (fun _ hk => hk.elim) (fun k hk => Nat.le_trans HB7.out.size hk) ?aB ?aS ?aL ?_; (case aO => exact Kd.R_nil _ _ _ _ _); (case aR => exact HCK.out); (case aK => intro x cs hx; exact hkm35 hx); (case aB => exact HB7.out); (case aS => exact HB7.out.size); (case aL => simp only [List.length_nil]; omega); intro v8 W8 ho hb hg8 hat; rw [List.nil_append] at ho; have HO8 := Aside0.mk ho; have HB8 := Aside0.mk hb; have BL8 := Aside0.mk (blk_grown BL.out hg8 (by simp [Value.ownBlock])); clear ho hb hg8 hat))
    have HD8 := Kd.C_drop (HGX6.out.far HB8.out).cx.k (show k + 1 ≤ G.ks.length by omega) hcap
    rw [List.length_drop] at HD8
    have HD := Aside0.mk HD8
    obtain ⟨kl, hkl2⟩ : ∃ kl, G.ks.take k ++ G.ks.drop (k + 1) = kl := ⟨_, rfl⟩
    have HKL := Aside0.mk hkl2
    clear hkl2
    have hadd : wrap64 ((k : Int) + 1) = (k : Int) + 1 := by unfold wrap64; omega
    clear b3 HCK HD8
    have b3 := (blk_cell (HGX6.out.far HB8.out).bg 3).trans (show _ = some (.slice X3 G.ks.length Xc3) from rfl)
    have hk3 : (k : Int) + 1 ≤ Xc3 := by omega
    have hk4 : (k : Int) + 1 ≤ G.ks.length := by omega
    have hk5 : 0 ≤ (k : Int) + 1 := by omega
    go_wp2_with (first | ((with_reducible refine gate_builtin (b := .append) (xs := #[.tmp 38, .tmp 43]) rfl ?_); at_builtin; refine Kd.R_append_rows k35 (Rr := Kd.K k35 W8) (w0 := w6) w6.heap.size rfl (.tmp 38) (.tmp 43) 23 35 (.agg #[(.int .i64 0), (.int .i64 0), (.int .i64 0), (.int .i64 0), (.int .i64 0), (.int .i64 0), (.int .i64 0), (.int .i64 0), (.int .i64 0), (.int .i64 0), (.int .i64 0)]) 88 rfl Tryd.underlying23 info35 rfl (by decide) (by decide) v8 (G.ks.take k) (G.ks.drop (k + 1)) _ _ _ (fun k => w6.heap.size ≤ k) (fun _ => False) rfl rfl ?aO ?aR ?aK (fun _ hk => hk.elim) (fun k hk => Nat.le_trans HB8.out.size hk) ?aB ?aS ?aL ?_; (case aO => exact HO8.out); (case aR => exact HD.out); (case aK => intro x cs hx; exact hkm35 hx); (case aB => exact HB8.out); (case aS => exact HB8.out.size); (case aL => rw [List.length_take]; omega); intro v9 W9 ho hb hg9 hat; rw [HKL.out] at ho; obtain ⟨L3, Lc3, rfl, hlc, _⟩ := Kd.R_reads ho; have HO9 := Aside0.mk ho; have HB9 := Aside0.mk hb; have BL9 := Aside0.mk (blk_grown BL8.out hg9 (Kd.R_ne HO8.out BL8.out (by decide))); have hl9 := blk_frozen BL9.out 3; have hl9c := (blk_cell BL9.out 3).trans (show _ = some (.slice Y3 G.ks.length Yc3) from rfl); clear ho hb hg9 hat))
    all_goals
      have HLX1 : ∃ (L : Cfg) (Xd3 : Nat) (Z2 : Option Addr) (Zc2 : Nat) (Z3 : Option Addr) (Zc3 : Nat) (Z4 : Option Addr) (Zc4 : Nat), LX w (W9.setCell ⟨w6.heap.size, 3, none⟩ (.slice L3 kl.length Lc3)) gb w6.heap.size G L X2 Xc2 X3 Xd3 X4 Xc4 Z2 Zc2 Z3 Zc3 Z4 Zc4 ∧ L.p = G.p ∧ (∀ x ∈ L.ks, x ∈ G.ks) ∧ L.ws.length ≤ 1000 ∧ L.ks.length ≤ 1000 ∧ L.ac.length ≤ 1000 := by
        have hbs := below_set (j := 3) (v := .slice L3 kl.length Lc3) HB9.out (Nat.le_refl _)
        have hrr := Kd.R_set HO9.out BL9.out (by decide) 3 (.slice L3 kl.length Lc3)
        obtain ⟨_, _, ee, hl1, hl2⟩ := Kd.R_reads hrr
        cases ee
        refine ⟨⟨G.p, G.f, G.ws, kl, G.ac⟩, _, _, _, _, _, _, _, ⟨HGX6.out.far hbs, blk_put BL9.out 3 _ rfl, ⟨(HY.out.below hbs).w, HY.out.wl, hl2, hl1, (HY.out.below hbs).a, HY.out.al⟩, below_step HGX6.out.bel hbs⟩, rfl, fun x hx => ?_, by show G.ws.length ≤ 1000; omega, ?_, by show G.ac.length ≤ 1000; omega⟩
        · have hx' : x ∈ kl := hx
          rw [← HKL.out] at hx'
          rcases List.mem_append.1 hx' with h1 | h1
          · exact List.mem_of_mem_take h1
          · exact List.mem_of_mem_drop h1
        · show kl.length ≤ 1000
          rw [← HKL.out, List.length_append, List.length_take, List.length_drop]
          omega
      clear HKL HO9 HB9 BL9 hl9 hl9c HO8 HB8 BL8 HD hadd b3 hk3 hk4 hk5 hk0 hk1 hk2 hlc
      revert HLX1
      generalize (W9.setCell ⟨w6.heap.size, 3, none⟩ (.slice L3 kl.length Lc3)) = W10
      intro HLX1
      go_wp2
      obtain ⟨L, Xd3, Z2, Zc2, Z3, Zc3, Z4, Zc4, HLX, hLp, hLs, m2, m3, m4⟩ := HLX1
      have HLS := Aside0.mk (fun (a b : Int) (h : pathB L a b = true) => path_less HGG.out hLp hLs h)
      replace HLX := Aside0.mk HLX
      have M := Aside0.mk (And.intro m2 (And.intro m3 m4))
      clear hLp hLs m2 m3 m4
      generalize w6.heap.size = lb at HLX ⊢
      go_loopw [9] (fun v9 wr => ∃ b : Nat, v9 = .int .i64 b ∧ (b : Int) ≤ G.p ∧ Aside0 (LX w wr gb lb G L X2 Xc2 X3 Xd3 X4 Xc4 Z2 Zc2 Z3 Zc3 Z4 Zc4)) (fun v9 _ => 5 - (intOf v9).toNat)
      case atStart => exact ⟨0, rfl, by omega, HLX⟩
      case round =>
        clear HLX
        obtain ⟨b, rfl, hb, HLX⟩ := hrel
        have b00 : 0 ≤ (b : Int) := by omega
        have b0 := (blk_cell HLX.out.g.bg 0).trans (show _ = some (.int .i64 G.p) from rfl)
        have b1 := (blk_cell HLX.out.g.bg 1).trans (show _ = some (.int .i64 G.f) from rfl)
        have b2 := (blk_cell HLX.out.g.bg 2).trans (show _ = some (.slice X2 G.ws.length Xc2) from rfl)
        have b3 := (blk_cell HLX.out.g.bg 3).trans (show _ = some (.slice X3 G.ks.length Xd3) from rfl)
        have b4 := (blk_cell HLX.out.g.bg 4).trans (show _ = some (.slice X4 G.ac.length Xc4) from rfl)
        by_cases hlb : (b : Int) < G.p
        · have d1 : decide ((b : Int) < G.p) = true := decide_eq_true hlb
          go_wp2_with (first | (go_at_call 18; refine (into_any HLX.out.g.cx (HG.out.below HLX.out.g.bel) (by omega) (by omega) (by omega) _).mono ?_; rintro e w' ⟨v, rfl, ho⟩; obtain ⟨A, c, rfl, hcl, hcr⟩ := into_cut ho; have HCR := Aside0.mk hcr; replace HLX := Aside0.mk (HLX.out.far ho.bel); clear ho hcr; clear b0 b1 b2 b3 b4))
          go_wp2
          go_loopw [11, 12] (fun v11 v12 wr => ∃ a : Nat, v12 = .int .i64 a ∧ (a : Int) ≤ G.p ∧ v11 = .int .i64 (intN G (b : Int) a) ∧ Aside0 (LX w wr gb lb G L X2 Xc2 X3 Xd3 X4 Xc4 Z2 Zc2 Z3 Zc3 Z4 Zc4) ∧ Aside0 (Kd.C (Kd.int .i64) wr A (intN G (b : Int) 4) (intL G (b : Int)))) (fun _ v12 _ => 5 - (intOf v12).toNat)
          case atStart => exact ⟨0, rfl, by omega, by rw [intN_zero]; rfl, HLX, HCR⟩
          case round =>
            clear HLX HCR
            rename_i gv11 gv12
            obtain ⟨a, rfl, ha, rfl, HLX, HCR⟩ := hrel
            have a00 : 0 ≤ (a : Int) := by omega
            have hna : intN G (b : Int) a ≤ 4 := Nat.le_trans intN_le (by omega)
            have hn4 : intN G (b : Int) 4 ≤ 4 := intN_le
            have b0 := (blk_cell HLX.out.g.bg 0).trans (show _ = some (.int .i64 G.p) from rfl)
            have b1 := (blk_cell HLX.out.g.bg 1).trans (show _ = some (.int .i64 G.f) from rfl)
            have b2 := (blk_cell HLX.out.g.bg 2).trans (show _ = some (.slice X2 G.ws.length Xc2) from rfl)
            have b3 := (blk_cell HLX.out.g.bg 3).trans (show _ = some (.slice X3 G.ks.length Xd3) from rfl)
            have b4 := (blk_cell HLX.out.g.bg 4).trans (show _ = some (.slice X4 G.ac.length Xc4) from rfl)
            have l0 := (blk_cell HLX.out.l.bg 0).trans (show _ = some (.int .i64 L.p) from rfl)
            have l1 := (blk_cell HLX.out.l.bg 1).trans (show _ = some (.int .i64 L.f) from rfl)
            have l2 := (blk_cell HLX.out.l.bg 2).trans (show _ = some (.slice Z2 L.ws.length Zc2) from rfl)
            have l3 := (blk_cell HLX.out.l.bg 3).trans (show _ = some (.slice Z3 L.ks.length Zc3) from rfl)
            have l4 := (blk_cell HLX.out.l.bg 4).trans (show _ = some (.slice Z4 L.ac.length Zc4) from rfl)
            by_cases hla : (a : Int) < G.p
            · have d2 : decide ((a : Int) < G.p) = true := decide_eq_true hla
              have T1 : True := trivial
              cases hPG : pathB G (a : Int) (b : Int)
              · cases hPL : pathB L (a : Int) (b : Int)
                · go_wp2_with (first | (go_at_call 15; have _t := T1; clear _t T1; refine (path_any HLX.out.l.cx (HG.out.below HLX.out.l.bel) M.out.2.1 M.out.2.2 M.out.1 _ _).mono ?_; rintro e w' ⟨rfl, hb⟩; replace HLX := Aside0.mk (HLX.out.far hb); replace HCR := Aside0.mk (Kd.C_below HCR.out hb); clear hb b0 b1 b2 b3 b4 l0 l1 l2 l3 l4; have b0 := (blk_cell HLX.out.g.bg 0).trans (show _ = some (.int .i64 G.p) from rfl); have b1 := (blk_cell HLX.out.g.bg 1).trans (show _ = some (.int .i64 G.f) from rfl); have b2 := (blk_cell HLX.out.g.bg 2).trans (show _ = some (.slice X2 G.ws.length Xc2) from rfl); have b3 := (blk_cell HLX.out.g.bg 3).trans (show _ = some (.slice X3 G.ks.length Xd3) from rfl); have b4 := (blk_cell HLX.out.g.bg 4).trans (show _ = some (.slice X4 G.ac.length Xc4) from rfl); have l0 := (blk_cell HLX.out.l.bg 0).trans (show _ = some (.int .i64 L.p) from rfl); have l1 := (blk_cell HLX.out.l.bg 1).trans (show _ = some (.int .i64 L.f) from rfl); have l2 := (blk_cell HLX.out.l.bg 2).trans (show _ = some (.slice Z2 L.ws.length Zc2) from rfl); have l3 := (blk_cell HLX.out.l.bg 3).trans (show _ = some (.slice Z3 L.ks.length Zc3) from rfl); have l4 := (blk_cell HLX.out.l.bg 4).trans (show _ = some (.slice Z4 L.ac.length Zc4) from rfl)) | (go_at_call 15; refine (path_any HLX.out.g.cx (HG.out.below HLX.out.g.bel) (by omega) (by omega) (by omega) _ _).mono ?_; rintro e w' ⟨rfl, hb⟩; replace HLX := Aside0.mk (HLX.out.far hb); replace HCR := Aside0.mk (Kd.C_below HCR.out hb); clear hb b0 b1 b2 b3 b4 l0 l1 l2 l3 l4; have b0 := (blk_cell HLX.out.g.bg 0).trans (show _ = some (.int .i64 G.p) from rfl); have b1 := (blk_cell HLX.out.g.bg 1).trans (show _ = some (.int .i64 G.f) from rfl); have b2 := (blk_cell HLX.out.g.bg 2).trans (show _ = some (.slice X2 G.ws.length Xc2) from rfl); have b3 := (blk_cell HLX.out.g.bg 3).trans (show _ = some (.slice X3 G.ks.length Xd3) from rfl); have b4 := (blk_cell HLX.out.g.bg 4).trans (show _ = some (.slice X4 G.ac.length Xc4) from rfl); have l0 := (blk_cell HLX.out.l.bg 0).trans (show _ = some (.int .i64 L.p) from rfl); have l1 := (blk_cell HLX.out.l.bg 1).trans (show _ = some (.int .i64 L.f) from rfl); have l2 := (blk_cell HLX.out.l.bg 2).trans (show _ = some (.slice Z2 L.ws.length Zc2) from rfl); have l3 := (blk_cell HLX.out.l.bg 3).trans (show _ = some (.slice Z3 L.ks.length Zc3) from rfl); have l4 := (blk_cell HLX.out.l.bg 4).trans (show _ = some (.slice Z4 L.ac.length Zc4) from rfl)))
                  go_roundw
                  case rel => exact ⟨a + 1, by go_num, by omega, by rw [intN_no hPG], HLX, HCR⟩
                  case measure => simp [intOf]; omega
                · exact absurd (HLS.out _ _ hPL) (by rw [hPG]; decide)
              · cases hPL : pathB L (a : Int) (b : Int)
                all_goals
                  go_upto_region 21 with (first | (go_at_call 15; have _t := T1; clear _t T1; refine (path_any HLX.out.l.cx (HG.out.below HLX.out.l.bel) M.out.2.1 M.out.2.2 M.out.1 _ _).mono ?_; rintro e w' ⟨rfl, hb⟩; replace HLX := Aside0.mk (HLX.out.far hb); replace HCR := Aside0.mk (Kd.C_below HCR.out hb); clear hb b0 b1 b2 b3 b4 l0 l1 l2 l3 l4; have b0 := (blk_cell HLX.out.g.bg 0).trans (show _ = some (.int .i64 G.p) from rfl); have b1 := (blk_cell HLX.out.g.bg 1).trans (show _ = some (.int .i64 G.f) from rfl); have b2 := (blk_cell HLX.out.g.bg 2).trans (show _ = some (.slice X2 G.ws.length Xc2) from rfl); have b3 := (blk_cell HLX.out.g.bg 3).trans (show _ = some (.slice X3 G.ks.length Xd3) from rfl); have b4 := (blk_cell HLX.out.g.bg 4).trans (show _ = some (.slice X4 G.ac.length Xc4) from rfl); have l0 := (blk_cell HLX.out.l.bg 0).trans (show _ = some (.int .i64 L.p) from rfl); have l1 := (blk_cell HLX.out.l.bg 1).trans (show _ = some (.int .i64 L.f) from rfl); have l2 := (blk_cell HLX.out.l.bg 2).trans (show _ = some (.slice Z2 L.ws.length Zc2) from rfl); have l3 := (blk_cell HLX.out.l.bg 3).trans (show _ = some (.slice Z3 L.ks.length Zc3) from rfl); have l4 := (blk_cell HLX.out.l.bg 4).trans (show _ = some (.slice Z4 L.ac.length Zc4) from rfl)) | (go_at_call 15; refine (path_any HLX.out.g.cx (HG.out.below HLX.out.g.bel) (by omega) (by omega) (by omega) _ _).mono ?_; rintro e w' ⟨rfl, hb⟩; replace HLX := Aside0.mk (HLX.out.far hb); replace HCR := Aside0.mk (Kd.C_below HCR.out hb); clear hb b0 b1 b2 b3 b4 l0 l1 l2 l3 l4; have b0 := (blk_cell HLX.out.g.bg 0).trans (show _ = some (.int .i64 G.p) from rfl); have b1 := (blk_cell HLX.out.g.bg 1).trans (show _ = some (.int .i64 G.f) from rfl); have b2 := (blk_cell HLX.out.g.bg 2).trans (show _ = some (.slice X2 G.ws.length Xc2) from rfl); have b3 := (blk_cell HLX.out.g.bg 3).trans (show _ = some (.slice X3 G.ks.length Xd3) from rfl); have b4 := (blk_cell HLX.out.g.bg 4).trans (show _ = some (.slice X4 G.ac.length Xc4) from rfl); have l0 := (blk_cell HLX.out.l.bg 0).trans (show _ = some (.int .i64 L.p) from rfl); have l1 := (blk_cell HLX.out.l.bg 1).trans (show _ = some (.int .i64 L.f) from rfl); have l2 := (blk_cell HLX.out.l.bg 2).trans (show _ = some (.slice Z2 L.ws.length Zc2) from rfl); have l3 := (blk_cell HLX.out.l.bg 3).trans (show _ = some (.slice Z3 L.ks.length Zc3) from rfl); have l4 := (blk_cell HLX.out.l.bg 4).trans (show _ = some (.slice Z4 L.ac.length Zc4) from rfl)))
                  obtain ⟨hlt, hget⟩ := intN_get (show a < 4 by omega) hPG
                  have e1 : decide ((intN G (b : Int) 4 : Int) ≤ (intN G (b : Int) a : Int)) = false := decide_eq_false (by omega)
                  have e1n : decide (intN G (b : Int) 4 ≤ intN G (b : Int) a) = false := decide_eq_false (by omega)
                  have hrd : rd (intL G (b : Int)) (intN G (b : Int) a : Int) = (a : Int) := by unfold rd; rw [Int.toNat_natCast, List.getD_eq_getElem?_getD, hget]; rfl
                  obtain ⟨ad, rfl, hcell0⟩ := Kd.at_int HCR.out (intN G (b : Int) a : Int) (by omega) (by omega)
                  rw [hrd, Int.toNat_natCast] at hcell0
                  have HY := Aside0.mk (intN_yes hPG)
                  clear hget hrd hPG hPL
                  go_wp2
                  go_roundw
                  case rel => exact ⟨a + 1, by go_num, by omega, by rw [HY.out]; go_num, HLX, HCR⟩
                  case measure => simp [intOf]; omega
            · have d2 : decide ((a : Int) < G.p) = false := decide_eq_false hla
              have hend := intN_end (b := (b : Int)) (show (a : Int) = G.p by omega) (by omega)
              rw [← hend]
              go_wp2
              go_roundw
              case rel => exact ⟨b + 1, by go_num, by omega, HLX⟩
              case measure => simp [intOf]; omega
        · have d1 : decide ((b : Int) < G.p) = false := decide_eq_false hlb
          go_wp2
          go_ret
          exact ⟨rfl, HLX.out.g.bel⟩
end Go.Proofs.YtehcgojcmcahnaaDoor.Cf
