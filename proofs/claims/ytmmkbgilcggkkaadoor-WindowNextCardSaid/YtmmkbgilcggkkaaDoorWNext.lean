/- WindowNext: the walk. -/
import Derived.Test.YtmmkbgilcggkkaaDoorWp
import Derived.Test.YtmmkbgilcggkkaaDoorGw
import Derived.Test.YtmmkbgilcggkkaaDoorFew
import Derived.Test.YtmmkbgilcggkkaaDoorWm
import Derived.Deep.RegionHeld3
set_option linter.unusedVariables false
set_option linter.unusedSimpArgs false
namespace Go.Proofs.YtmmkbgilcggkkaaDoor.Wn
open Go Go.RowKit Go.Shelf Go.Proofs.YtmmkbgilcggkkaaDoorW.PrintWords Go.Proofs.YtmmkbgilcggkkaaDoorW.PrintLast Go.Proofs.YtmmkbgilcggkkaaDoorW.PrintMore Go.Proofs.YtmmkbgilcggkkaaDoor.Cz Go.Proofs.YtmmkbgilcggkkaaDoor.PWindowCalls Go.Proofs.YtmmkbgilcggkkaaDoor.Cf Go.Proofs.YtmmkbgilcggkkaaDoor.Sat
attribute [local go_sem] max2_int min2_int max_two min_two max_three min_three max_four min_four Tryd.underlying26 Tryd.underlying41 Tryd.underlying37
/-- Where none of an owner's lie no more are ahead. -/
theorem good_flat {G : Cfg} (h : GoodC G) {t o : Int} (h0 : 0 ≤ t) (h1 : t ≤ 900000000) : ∀ k : Nat, (k : Int) ≤ 100 → (∀ j : Int, 0 ≤ j → j < k → (t + j) % G.f ∉ phs G o) → beforeN G o (t + k) = beforeN G o t
  | 0, _, _ => by rw [show t + ((0 : Nat) : Int) = t from Int.add_zero t]
  | k + 1, hk, hn => by
    have h2 := good_flat h h0 h1 k (by omega) (fun j j0 j1 => hn j j0 (by omega))
    have h3 := good_step h (t := t + k) (o := o) (by omega) (by omega)
    rw [if_neg (fun e => hn k (by omega) (by omega) ((good_who_iff h (by omega) (by omega)).1 e))] at h3
    rw [show t + ((k + 1 : Nat) : Int) = t + k + 1 by omega, h3, h2]
    omega
set_option maxHeartbeats 16000000 in
set_option maxRecDepth 100000 in
theorem windowNext_any (owner : Int) (now : Int) {C : Cfg} {A2 A3 A4 : Option Addr} {Ac2 Ac3 Ac4 : Nat} {w : World} (h : CX w C A2 Ac2 A3 Ac3 A4 Ac4)
    (l2 : C.ws.length ≤ maxLen) (l3 : C.ks.length ≤ maxLen) (l4 : C.ac.length ≤ maxLen) (hg : LG w) :
    Calls Tryd.prog 4 #[.agg #[.int .i64 C.p, .int .i64 C.f, .slice A2 C.ws.length Ac2, .slice A3 C.ks.length Ac3, .slice A4 C.ac.length Ac4], .int .i64 owner, .int .i64 now] w fun e w' => e = .returned (.bool true) ∧ Below w.heap.size w w' := by
  have FA := Aside0.mk (fun w1 (hb : Below w.heap.size w w1) => few_any (h.below hb) l2 l3 l4)
  have HXD := Aside0.mk h.few
  have HG := Aside0.mk hg
  have B1 := Aside0.mk (And.intro (blk_new w (.cells #[.int .i64 C.p, .int .i64 C.f, .slice A2 C.ws.length Ac2, .slice A3 C.ks.length Ac3, .slice A4 C.ac.length Ac4] 26)) (below_alloc (Below.refl w.heap.size w) (.cells #[.int .i64 C.p, .int .i64 C.f, .slice A2 C.ws.length Ac2, .slice A3 C.ks.length Ac3, .slice A4 C.ac.length Ac4] 26)))
  clear h l2 l3 l4 hg
  generalize fewC C = D at FA HXD
  go_enter Tryd.func4, Tryd.ntmps4
  go_upto_region 3 with (first | (go_at_call 10; refine (lives_any (HG.out.below B1.out.2)).mono ?_; rintro e w2 ⟨rfl, hb⟩; have B2_ := Aside0.mk (And.intro (blk_below B1.out.1 hb) (below_step B1.out.2 hb)); clear hb))
  have s0 := (blk_cell B2_.out.1 0).trans (show _ = some (.int .i64 C.p) from rfl)
  have s1 := (blk_cell B2_.out.1 1).trans (show _ = some (.int .i64 C.f) from rfl)
  have s2 := (blk_cell B2_.out.1 2).trans (show _ = some (.slice A2 C.ws.length Ac2) from rfl)
  have s3 := (blk_cell B2_.out.1 3).trans (show _ = some (.slice A3 C.ks.length Ac3) from rfl)
  have s4 := (blk_cell B2_.out.1 4).trans (show _ = some (.slice A4 C.ac.length Ac4) from rfl)
  clear B1
  go_upto_region 4 with (first | (go_at_call 12; refine (FA.out _ B2_.out.2).mono ?_; rintro e w3 ⟨rfl, hb⟩; have B3 := Aside0.mk (below_step B2_.out.2 hb); clear hb) | (go_at_call 11; refine (good_any (HXD.out.below B3.out)).mono ?_; rintro e w5 ⟨G, X2, Xc2, X3, Xc3, X4, Xc4, hG, rfl, hx, hb⟩; have HX := Aside0.mk hx; have B5 := Aside0.mk (below_step B3.out hb); have HGG := Aside0.mk hG; clear hb hx hG))
  clear s0 s1 s2 s3 s4 B2_ B3 FA HXD
  have H6 : (w5.alloc (.cells #[.int .i64 G.p, .int .i64 G.f, .slice X2 G.ws.length Xc2, .slice X3 G.ks.length Xc3, .slice X4 G.ac.length Xc4] 26)).heap[w5.heap.size]? = some (.cells #[.int .i64 G.p, .int .i64 G.f, .slice X2 G.ws.length Xc2, .slice X3 G.ks.length Xc3, .slice X4 G.ac.length Xc4] 26 (0, 0)) ∧ Below w5.heap.size w5 (w5.alloc (.cells #[.int .i64 G.p, .int .i64 G.f, .slice X2 G.ws.length Xc2, .slice X3 G.ks.length Xc3, .slice X4 G.ac.length Xc4] 26)) := ⟨blk_new _ _, below_alloc (Below.refl _ _) _⟩
  have HG5 := Aside0.mk (HG.out.below B5.out)
  clear HG
  revert H6
  generalize (w5.alloc (.cells #[.int .i64 G.p, .int .i64 G.f, .slice X2 G.ws.length Xc2, .slice X3 G.ks.length Xc3, .slice X4 G.ac.length Xc4] 26)) = W6
  intro H6
  have HM := um now 1000000 (by decide) (by decide)
  obtain ⟨m, hm⟩ : ∃ m, wrap64 (Int.tmod (IntKind.u64.wrap now) 1000000) = m := ⟨_, rfl⟩
  rw [hm] at HM
  have hm0 : 0 ≤ m := by omega
  have hm1 : m < 1000000 := by omega
  clear HM
  have hf := HGG.out.f
  have k1 : G.ks.length ≤ 1000 := by have := HGG.out.k; omega
  have k2 : G.ac.length ≤ 1000 := by have := HGG.out.a; have := HGG.out.p; omega
  have k3 : G.ws.length ≤ 1000 := by have := HGG.out.w; omega
  have CB : Aside0 (∀ (t : Int) (W : World), Below w5.heap.size w5 W → Calls Tryd.prog 13 #[.agg #[.int .i64 G.p, .int .i64 G.f, .slice X2 G.ws.length Xc2, .slice X3 G.ks.length Xc3, .slice X4 G.ac.length Xc4], .int .i64 owner, .int .i64 t] W fun e w' => e = .returned (.int .i64 (beforeN G owner t)) ∧ Below W.heap.size W w') := ⟨fun t W hb => before_any (HX.out.below hb) (HG5.out.below hb) k1 k2 k3 owner t⟩
  have CW : Aside0 (∀ (t : Int) (W : World), Below w5.heap.size w5 W → Calls Tryd.prog 14 #[.agg #[.int .i64 G.p, .int .i64 G.f, .slice X2 G.ws.length Xc2, .slice X3 G.ks.length Xc3, .slice X4 G.ac.length Xc4], .int .i64 t] W fun e w' => e = .returned (.tuple #[.int .i64 ((whoN G t).getD 0), .bool (whoN G t).isSome]) ∧ Below W.heap.size W w') := ⟨fun t W hb => whose_any (HX.out.below hb) (HG5.out.below hb) k1 k2 k3 t⟩
  have CU : Aside0 (∀ W : World, Below w5.heap.size w5 W → Calls Tryd.prog 16 #[.agg #[.int .i64 G.p, .int .i64 G.f, .slice X2 G.ws.length Xc2, .slice X3 G.ks.length Xc3, .slice X4 G.ac.length Xc4], .int .i64 owner, .int .i64 m] W fun e w' => e = .returned (.int .i64 (untilN G owner m)) ∧ Below W.heap.size W w') := ⟨fun W hb => until_any (HX.out.below hb) (HG5.out.below hb) k1 k2 k3 owner m⟩
  have CN : Aside0 (∀ W : World, Below w5.heap.size w5 W → Calls Tryd.prog 15 #[.agg #[.int .i64 G.p, .int .i64 G.f, .slice X2 G.ws.length Xc2, .slice X3 G.ks.length Xc3, .slice X4 G.ac.length Xc4], .int .i64 owner, .int .i64 m] W fun e w' => e = .returned (.int .i64 (nthN G owner m)) ∧ Below W.heap.size W w') := ⟨fun W hb => nth_any (HX.out.below hb) (HG5.out.below hb) k1 k2 k3 owner m⟩
  have CC : Aside0 (∀ W : World, Below w5.heap.size w5 W → Calls Tryd.prog 17 #[.agg #[.int .i64 G.p, .int .i64 G.f, .slice X2 G.ws.length Xc2, .slice X3 G.ks.length Xc3, .slice X4 G.ac.length Xc4], .int .i64 owner] W fun e w' => e = .returned (.int .i64 (countN G owner)) ∧ Below W.heap.size W w') := ⟨fun W hb => count_any (HX.out.below hb) (HG5.out.below hb) k1 k2 k3 owner⟩
  clear k1 k2 k3 HX HG5
  have g0 := (blk_cell H6.1 0).trans (show _ = some (.int .i64 G.p) from rfl)
  have g1 := (blk_cell H6.1 1).trans (show _ = some (.int .i64 G.f) from rfl)
  have g2 := (blk_cell H6.1 2).trans (show _ = some (.slice X2 G.ws.length Xc2) from rfl)
  have g3 := (blk_cell H6.1 3).trans (show _ = some (.slice X3 G.ks.length Xc3) from rfl)
  have g4 := (blk_cell H6.1 4).trans (show _ = some (.slice X4 G.ac.length Xc4) from rfl)
  have H6A := Aside0.mk H6
  clear H6
  by_cases hc : countN G owner = 0
  ·
    rw [good_until_no HGG.out hc] at CU
    rw [good_nth_no HGG.out hc] at CN
    rw [hc] at CC
    clear hc HGG CB CW hf
    go_upto_region 5 with (first | fail)
    rw [hm]
    clear hm
    go_upto_region 6 with (first | (go_at_call 16; (with_reducible refine (CU.out _ H6A.out.2).mono ?_); rintro e w7 ⟨rfl, hb⟩; have H7 := Aside0.mk (And.intro (blk_below H6A.out.1 hb) (below_step H6A.out.2 hb)); clear hb g0 g1 g2 g3 g4; have g0 := (blk_cell H7.out.1 0).trans (show _ = some (.int .i64 G.p) from rfl); have g1 := (blk_cell H7.out.1 1).trans (show _ = some (.int .i64 G.f) from rfl); have g2 := (blk_cell H7.out.1 2).trans (show _ = some (.slice X2 G.ws.length Xc2) from rfl); have g3 := (blk_cell H7.out.1 3).trans (show _ = some (.slice X3 G.ks.length Xc3) from rfl); have g4 := (blk_cell H7.out.1 4).trans (show _ = some (.slice X4 G.ac.length Xc4) from rfl)))
    go_upto_region 7 with (first | (go_at_call 15; (with_reducible refine (CN.out _ H7.out.2).mono ?_); rintro e w8 ⟨rfl, hb⟩; have H8 := Aside0.mk (And.intro (blk_below H7.out.1 hb) (below_step H7.out.2 hb)); clear hb g0 g1 g2 g3 g4; have g0 := (blk_cell H8.out.1 0).trans (show _ = some (.int .i64 G.p) from rfl); have g1 := (blk_cell H8.out.1 1).trans (show _ = some (.int .i64 G.f) from rfl); have g2 := (blk_cell H8.out.1 2).trans (show _ = some (.slice X2 G.ws.length Xc2) from rfl); have g3 := (blk_cell H8.out.1 3).trans (show _ = some (.slice X3 G.ks.length Xc3) from rfl); have g4 := (blk_cell H8.out.1 4).trans (show _ = some (.slice X4 G.ac.length Xc4) from rfl)))
    go_wp2_with (first | (go_at_call 17; (with_reducible refine (CC.out _ H8.out.2).mono ?_); rintro e w9 ⟨rfl, hb⟩; have H9 := Aside0.mk (And.intro (blk_below H8.out.1 hb) (below_step H8.out.2 hb)); clear hb g0 g1 g2 g3 g4))
    go_ret
    exact ⟨rfl, below_step B5.out H9.out.2⟩
  ·
    obtain ⟨p, hpm, hu1, _, hu3⟩ := good_until HGG.out hm0 (by omega) hc
    have hpb := good_bd HGG.out hpm
    have hgb := gap_bd (c := m) hf.1 hpb.1 hpb.2
    have hge := gap_end (c := m) hf.1 hpb.1 hpb.2
    obtain ⟨hn1, hn2, hn3⟩ := good_nth HGG.out hm0 (by omega) hc
    rw [hu1] at CU
    generalize gap m G.f p = gp at hu1 hu3 hgb hge CU
    have hfl := good_flat HGG.out (o := owner) hm0 (by omega) gp.toNat (by omega) (fun j j0 j1 => hu3 j j0 (by omega))
    rw [show ((gp.toNat : Nat) : Int) = gp from Int.toNat_of_nonneg hgb.1] at hfl
    have hwu : whoN G (m + gp) = some owner := (good_who_iff HGG.out (by omega) (by omega)).2 (by rw [hge]; exact hpm)
    have HNO : Aside0 (∀ i : Int, m ≤ i → i < m + gp → whoN G i ≠ some owner) := ⟨fun i i0 i1 e => hu3 (i - m) (by omega) (by omega) (by rw [show m + (i - m) = i by omega]; exact (good_who_iff HGG.out (by omega) (by omega)).1 e)⟩
    have CBn := Aside0.mk (CB.out (nthN G owner m))
    rw [hn3] at CBn
    have CBu := Aside0.mk (CB.out (m + gp))
    rw [hfl] at CBu
    have CBm := Aside0.mk (CB.out m)
    have CWn := Aside0.mk (CW.out (nthN G owner m))
    rw [hn2] at CWn
    have CWu := Aside0.mk (CW.out (m + gp))
    rw [hwu] at CWu
    have hop : (some owner).getD 0 = owner := rfl
    have hos : (some owner).isSome = true := rfl
    rw [hop, hos] at CWn CWu
    clear hop hos
    generalize nthN G owner m = nn at CN CBn CWn
    generalize beforeN G owner m = bm at CBm CBu
    obtain ⟨u, hu⟩ : ∃ u, m + gp = u := ⟨_, rfl⟩
    rw [hu] at CU CBu CWu HNO
    have hum : m ≤ u := by omega
    have huf : u - m < G.f := by omega
    have hf64 := hf.2
    have hf1 := hf.1
    clear hu1 hu3 hgb hge hfl hwu hpb hpm hn1 hn2 hn3 CB HGG hf hu
    have d1 : decide (countN G owner = 0) = false := decide_eq_false hc
    have d2 : (countN G owner == 0) = false := beq_eq_false_iff_ne.mpr hc
    generalize countN G owner = k at CC d1 d2
    clear hc
    have d3 : decide (u < m) = false := decide_eq_false (by omega)
    have hsu : wrap64 (u - m) = u - m := w64_in (by omega) (by omega)
    have hsuI : IntKind.i64.wrap (u - m) = u - m := (IntWalk.i64_left _).trans hsu
    have d4 : decide (G.f ≤ u - m) = false := decide_eq_false (by omega)
    go_upto_region 5 with (first | fail)
    rw [hm]
    clear hm
    go_upto_region 6 with (first | (go_at_call 16; (with_reducible refine (CU.out _ H6A.out.2).mono ?_); rintro e w7 ⟨rfl, hb⟩; have H7 := Aside0.mk (And.intro (blk_below H6A.out.1 hb) (below_step H6A.out.2 hb)); clear hb g0 g1 g2 g3 g4; have g0 := (blk_cell H7.out.1 0).trans (show _ = some (.int .i64 G.p) from rfl); have g1 := (blk_cell H7.out.1 1).trans (show _ = some (.int .i64 G.f) from rfl); have g2 := (blk_cell H7.out.1 2).trans (show _ = some (.slice X2 G.ws.length Xc2) from rfl); have g3 := (blk_cell H7.out.1 3).trans (show _ = some (.slice X3 G.ks.length Xc3) from rfl); have g4 := (blk_cell H7.out.1 4).trans (show _ = some (.slice X4 G.ac.length Xc4) from rfl)))
    go_upto_region 7 with (first | (go_at_call 15; (with_reducible refine (CN.out _ H7.out.2).mono ?_); rintro e w8 ⟨rfl, hb⟩; have H8 := Aside0.mk (And.intro (blk_below H7.out.1 hb) (below_step H7.out.2 hb)); clear hb g0 g1 g2 g3 g4; have g0 := (blk_cell H8.out.1 0).trans (show _ = some (.int .i64 G.p) from rfl); have g1 := (blk_cell H8.out.1 1).trans (show _ = some (.int .i64 G.f) from rfl); have g2 := (blk_cell H8.out.1 2).trans (show _ = some (.slice X2 G.ws.length Xc2) from rfl); have g3 := (blk_cell H8.out.1 3).trans (show _ = some (.slice X3 G.ks.length Xc3) from rfl); have g4 := (blk_cell H8.out.1 4).trans (show _ = some (.slice X4 G.ac.length Xc4) from rfl)))
    go_upto_region 9 with (first | (go_at_call 17; (with_reducible refine (CC.out _ H8.out.2).mono ?_); rintro e w9 ⟨rfl, hb⟩; have H9 := Aside0.mk (And.intro (blk_below H8.out.1 hb) (below_step H8.out.2 hb)); clear hb g0 g1 g2 g3 g4; have g0 := (blk_cell H9.out.1 0).trans (show _ = some (.int .i64 G.p) from rfl); have g1 := (blk_cell H9.out.1 1).trans (show _ = some (.int .i64 G.f) from rfl); have g2 := (blk_cell H9.out.1 2).trans (show _ = some (.slice X2 G.ws.length Xc2) from rfl); have g3 := (blk_cell H9.out.1 3).trans (show _ = some (.slice X3 G.ks.length Xc3) from rfl); have g4 := (blk_cell H9.out.1 4).trans (show _ = some (.slice X4 G.ac.length Xc4) from rfl)))
    clear H6A H7 H8 CU CN CC d1 d2
    go_wp2
    clear g0 g1 g2 g3 g4 d3 hsu hsuI d4
    go_loopw [10] (fun v10 wr => ∃ i : Int, v10 = .int .i64 i ∧ m ≤ i ∧ i ≤ u ∧ Aside0 (wr.heap[w5.heap.size]? = some (.cells #[.int .i64 G.p, .int .i64 G.f, .slice X2 G.ws.length Xc2, .slice X3 G.ks.length Xc3, .slice X4 G.ac.length Xc4] 26 (0, 0)) ∧ Below w5.heap.size w5 wr)) (fun v10 _ => (u - intOf v10).toNat)
    case atStart => exact ⟨m, rfl, by omega, by omega, H9⟩
    case round =>
      clear H9
      rename_i gv10
      obtain ⟨i, rfl, hi0, hi1, HI⟩ := hrel
      have g0 := (blk_cell HI.out.1 0).trans (show _ = some (.int .i64 G.p) from rfl)
      have g1 := (blk_cell HI.out.1 1).trans (show _ = some (.int .i64 G.f) from rfl)
      have g2 := (blk_cell HI.out.1 2).trans (show _ = some (.slice X2 G.ws.length Xc2) from rfl)
      have g3 := (blk_cell HI.out.1 3).trans (show _ = some (.slice X3 G.ks.length Xc3) from rfl)
      have g4 := (blk_cell HI.out.1 4).trans (show _ = some (.slice X4 G.ac.length Xc4) from rfl)
      by_cases hlt : i < u
      · have d1 : decide (i < u) = true := decide_eq_true hlt
        have hno := HNO.out i hi0 hlt
        have CWi := Aside0.mk (CW.out i)
        have hi2 : wrap64 (i + 1) = i + 1 := w64_in (by omega) (by omega)
        have hwo : whoN G i = none ∨ ∃ r, whoN G i = some r ∧ decide (r = owner) = false ∧ (r == owner) = false := by
          cases h : whoN G i with
          | none => exact Or.inl rfl
          | some r =>
            have hr : r ≠ owner := fun e => hno (by rw [h, e])
            exact Or.inr ⟨r, rfl, decide_eq_false hr, beq_eq_false_iff_ne.mpr hr⟩
        clear hno
        rcases hwo with hw | ⟨r, hw, hr1, hr2⟩
        · rw [hw] at CWi
          have hos : (none : Option Int).isSome = false := rfl
          rw [hos] at CWi
          clear hos hw
          generalize (none : Option Int).getD 0 = a at CWi
          go_wp2_with (first | (go_at_call 14; (with_reducible refine (CWi.out _ HI.out.2).mono ?_); rintro e w9 ⟨rfl, hb⟩; have H9 := Aside0.mk (And.intro (blk_below HI.out.1 hb) (below_step HI.out.2 hb)); clear hb g0 g1 g2 g3 g4))
          go_roundw
          case rel => exact ⟨i + 1, by first | rfl | rw [hi2] | go_num, by omega, by omega, H9⟩
          case measure => simp [intOf]; omega
        · rw [hw] at CWi
          have hop : (some r).getD 0 = r := rfl
          have hos : (some r).isSome = true := rfl
          rw [hop, hos] at CWi
          clear hop hos hw
          go_wp2_with (first | (go_at_call 14; (with_reducible refine (CWi.out _ HI.out.2).mono ?_); rintro e w9 ⟨rfl, hb⟩; have H9 := Aside0.mk (And.intro (blk_below HI.out.1 hb) (below_step HI.out.2 hb)); clear hb g0 g1 g2 g3 g4))
          go_roundw
          case rel => exact ⟨i + 1, by first | rfl | rw [hi2] | go_num, by omega, by omega, H9⟩
          case measure => simp [intOf]; omega
      · have d1 : decide (i < u) = false := decide_eq_false hlt
        clear HNO CW hi0 hi1 hlt
        go_upto_region 18 with (first | (go_at_call 14; (with_reducible refine (CWu.out _ HI.out.2).mono ?_); rintro e w9 ⟨rfl, hb⟩; have H9 := Aside0.mk (And.intro (blk_below HI.out.1 hb) (below_step HI.out.2 hb)); clear hb g0 g1 g2 g3 g4; have g0 := (blk_cell H9.out.1 0).trans (show _ = some (.int .i64 G.p) from rfl); have g1 := (blk_cell H9.out.1 1).trans (show _ = some (.int .i64 G.f) from rfl); have g2 := (blk_cell H9.out.1 2).trans (show _ = some (.slice X2 G.ws.length Xc2) from rfl); have g3 := (blk_cell H9.out.1 3).trans (show _ = some (.slice X3 G.ks.length Xc3) from rfl); have g4 := (blk_cell H9.out.1 4).trans (show _ = some (.slice X4 G.ac.length Xc4) from rfl)))
        go_upto_region 19 with (first | (go_at_call 14; (with_reducible refine (CWn.out _ H9.out.2).mono ?_); rintro e w10 ⟨rfl, hb⟩; have H10 := Aside0.mk (And.intro (blk_below H9.out.1 hb) (below_step H9.out.2 hb)); clear hb g0 g1 g2 g3 g4; have g0 := (blk_cell H10.out.1 0).trans (show _ = some (.int .i64 G.p) from rfl); have g1 := (blk_cell H10.out.1 1).trans (show _ = some (.int .i64 G.f) from rfl); have g2 := (blk_cell H10.out.1 2).trans (show _ = some (.slice X2 G.ws.length Xc2) from rfl); have g3 := (blk_cell H10.out.1 3).trans (show _ = some (.slice X3 G.ks.length Xc3) from rfl); have g4 := (blk_cell H10.out.1 4).trans (show _ = some (.slice X4 G.ac.length Xc4) from rfl)))
        clear HI H9 CWu CWn d1
        have TS := Aside0.mk (fun (W : World) (hb : Below w10.heap.size w10 W) => And.intro (cell_b g0 hb) (And.intro (cell_b g1 hb) (And.intro (cell_b g2 hb) (And.intro (cell_b g3 hb) (cell_b g4 hb)))))
        have HB := Aside0.mk (below_drew (Below.refl w10.heap.size w10))
        refine start_ (n := 34) (S := (fun w' => w'.cell? ⟨w5.heap.size, 0, none⟩ = some (.int .i64 G.p) ∧ w'.cell? ⟨w5.heap.size, 1, none⟩ = some (.int .i64 G.f) ∧ w'.cell? ⟨w5.heap.size, 2, none⟩ = some (.slice X2 G.ws.length Xc2) ∧ w'.cell? ⟨w5.heap.size, 3, none⟩ = some (.slice X3 G.ks.length Xc3) ∧ w'.cell? ⟨w5.heap.size, 4, none⟩ = some (.slice X4 G.ac.length Xc4))) (ds := []) #[false, false, false, false, false, false, false, false, false, false, false, false, false, false, false, false, false, false, false, false, false, false, false, false, false, false, false, false, false, false, false, false, false, false] (by kernel_rfl) rfl rfl (TS.out _ (below_drew (Below.refl _ _))) (fun hHeld => ?_)
        refine pure_ (i := 0) (N := some 85) (v := ?_) (a' := ?_) #[true, false, false, false, false, false, false, false, false, false, false, false, false, false, false, false, false, false, false, false, false, false, false, false, false, false, false, false, false, false, false, false, false, false] rfl rfl (by kernel_rfl) (fun _ _ _ h => h) (Or.inl ⟨by rfl, ?_⟩) ?_ ?_
        rotate_left
        · intro w'
          go_simp
          with_reducible rfl
        rotate_left
        · simp only [Act.put, List.setIfInBounds_toArray, List.set_cons_zero, List.set_cons_succ, i64_w, i32_w]
          rfl
        refine pure_ (i := 1) (N := some 86) (v := ?_) (a' := ?_) #[true, true, false, false, false, false, false, false, false, false, false, false, false, false, false, false, false, false, false, false, false, false, false, false, false, false, false, false, false, false, false, false, false, false] rfl rfl (by kernel_rfl) (fun _ _ _ h => h) (Or.inl ⟨by rfl, ?_⟩) ?_ ?_
        rotate_left
        · intro w'
          go_simp
          with_reducible rfl
        rotate_left
        · simp only [Act.put, List.setIfInBounds_toArray, List.set_cons_zero, List.set_cons_succ, i64_w, i32_w]
          rfl
        refine pure_ (i := 2) (N := some 87) (v := ?_) (a' := ?_) #[true, true, true, false, false, false, false, false, false, false, false, false, false, false, false, false, false, false, false, false, false, false, false, false, false, false, false, false, false, false, false, false, false, false] rfl rfl (by kernel_rfl) (fun _ _ _ h => h) (Or.inl ⟨by rfl, ?_⟩) ?_ ?_
        rotate_left
        · intro w'
          go_simp
          with_reducible rfl
        rotate_left
        · simp only [Act.put, List.setIfInBounds_toArray, List.set_cons_zero, List.set_cons_succ, i64_w, i32_w]
          rfl
        refine pure_ (i := 3) (N := some 88) (v := ?_) (a' := ?_) #[true, true, true, true, false, false, false, false, false, false, false, false, false, false, false, false, false, false, false, false, false, false, false, false, false, false, false, false, false, false, false, false, false, false] rfl rfl (by kernel_rfl) (fun _ _ _ h => h) (Or.inl ⟨by rfl, ?_⟩) ?_ ?_
        rotate_left
        · intro w'
          go_simp
          with_reducible rfl
        rotate_left
        · simp only [Act.put, List.setIfInBounds_toArray, List.set_cons_zero, List.set_cons_succ, i64_w, i32_w]
          rfl
        refine pure_ (i := 4) (N := some 89) (v := ?_) (a' := ?_) #[true, true, true, true, true, false, false, false, false, false, false, false, false, false, false, false, false, false, false, false, false, false, false, false, false, false, false, false, false, false, false, false, false, false] rfl rfl (by kernel_rfl) (fun _ _ _ h => h) (Or.inl ⟨by rfl, ?_⟩) ?_ ?_
        rotate_left
        · intro w'
          go_simp
          with_reducible rfl
        rotate_left
        · simp only [Act.put, List.setIfInBounds_toArray, List.set_cons_zero, List.set_cons_succ, i64_w, i32_w]
          rfl
        refine pure_ (i := 5) (N := some 90) (v := ?_) (a' := ?_) #[true, true, true, true, true, true, false, false, false, false, false, false, false, false, false, false, false, false, false, false, false, false, false, false, false, false, false, false, false, false, false, false, false, false] rfl rfl (by kernel_rfl) (fun _ _ _ h => h) (Or.inl ⟨by rfl, ?_⟩) ?_ ?_
        rotate_left
        · intro w'
          go_simp
          with_reducible rfl
        rotate_left
        · simp only [Act.put, List.setIfInBounds_toArray, List.set_cons_zero, List.set_cons_succ, i64_w, i32_w]
          rfl
        refine pure_ (i := 6) (N := some 91) (v := ?_) (a' := ?_) #[true, true, true, true, true, true, true, false, false, false, false, false, false, false, false, false, false, false, false, false, false, false, false, false, false, false, false, false, false, false, false, false, false, false] rfl rfl (by kernel_rfl) (fun _ _ _ h => h) (Or.inl ⟨by rfl, ?_⟩) ?_ ?_
        rotate_left
        · intro w'
          go_simp
          with_reducible rfl
        rotate_left
        · simp only [Act.put, List.setIfInBounds_toArray, List.set_cons_zero, List.set_cons_succ, i64_w, i32_w]
          rfl
        refine pure_ (i := 7) (N := some 92) (v := ?_) (a' := ?_) #[true, true, true, true, true, true, true, true, false, false, false, false, false, false, false, false, false, false, false, false, false, false, false, false, false, false, false, false, false, false, false, false, false, false] rfl rfl (by kernel_rfl) (fun _ _ _ h => h) (Or.inl ⟨by rfl, ?_⟩) ?_ ?_
        rotate_left
        · intro w'
          go_simp
          with_reducible rfl
        rotate_left
        · simp only [Act.put, List.setIfInBounds_toArray, List.set_cons_zero, List.set_cons_succ, i64_w, i32_w]
          rfl
        refine pure_ (i := 8) (N := some 93) (v := ?_) (a' := ?_) #[true, true, true, true, true, true, true, true, true, false, false, false, false, false, false, false, false, false, false, false, false, false, false, false, false, false, false, false, false, false, false, false, false, false] rfl rfl (by kernel_rfl) (fun _ _ _ h => h) (Or.inl ⟨by rfl, ?_⟩) ?_ ?_
        rotate_left
        · intro w'
          go_simp
          with_reducible rfl
        rotate_left
        · simp only [Act.put, List.setIfInBounds_toArray, List.set_cons_zero, List.set_cons_succ, i64_w, i32_w]
          rfl
        refine pure_ (i := 9) (N := some 94) (v := ?_) (a' := ?_) #[true, true, true, true, true, true, true, true, true, true, false, false, false, false, false, false, false, false, false, false, false, false, false, false, false, false, false, false, false, false, false, false, false, false] rfl rfl (by kernel_rfl) (fun _ _ _ h => h) (Or.inl ⟨by rfl, ?_⟩) ?_ ?_
        rotate_left
        · intro w'
          go_simp
          with_reducible rfl
        rotate_left
        · simp only [Act.put, List.setIfInBounds_toArray, List.set_cons_zero, List.set_cons_succ, i64_w, i32_w]
          rfl
        refine pure_ (i := 10) (N := some 95) (v := ?_) (a' := ?_) #[true, true, true, true, true, true, true, true, true, true, true, false, false, false, false, false, false, false, false, false, false, false, false, false, false, false, false, false, false, false, false, false, false, false] rfl rfl (by kernel_rfl) (fun _ _ _ h => h) (Or.inl ⟨by rfl, ?_⟩) ?_ ?_
        rotate_left
        · intro w'
          go_simp
          with_reducible rfl
        rotate_left
        · simp only [Act.put, List.setIfInBounds_toArray, List.set_cons_zero, List.set_cons_succ, i64_w, i32_w]
          rfl
        refine pure_ (i := 11) (N := some 96) (v := ?_) (a' := ?_) #[true, true, true, true, true, true, true, true, true, true, true, true, false, false, false, false, false, false, false, false, false, false, false, false, false, false, false, false, false, false, false, false, false, false] rfl rfl (by kernel_rfl) (fun _ _ _ h => h) (Or.inl ⟨by rfl, ?_⟩) ?_ ?_
        rotate_left
        · intro w'
          go_simp
          with_reducible rfl
        rotate_left
        · simp only [Act.put, List.setIfInBounds_toArray, List.set_cons_zero, List.set_cons_succ, i64_w, i32_w]
          rfl
        refine pure_ (i := 12) (N := some 97) (v := ?_) (a' := ?_) #[true, true, true, true, true, true, true, true, true, true, true, true, true, false, false, false, false, false, false, false, false, false, false, false, false, false, false, false, false, false, false, false, false, false] rfl rfl (by kernel_rfl) (fun _ _ _ h => h) (Or.inl ⟨by rfl, ?_⟩) ?_ ?_
        rotate_left
        · intro w'
          go_simp
          with_reducible rfl
        rotate_left
        · simp only [Act.put, List.setIfInBounds_toArray, List.set_cons_zero, List.set_cons_succ, i64_w, i32_w]
          rfl
        refine pure_ (i := 13) (N := some 98) (v := ?_) (a' := ?_) #[true, true, true, true, true, true, true, true, true, true, true, true, true, true, false, false, false, false, false, false, false, false, false, false, false, false, false, false, false, false, false, false, false, false] rfl rfl (by kernel_rfl) (fun _ _ _ h => h) (Or.inl ⟨by rfl, ?_⟩) ?_ ?_
        rotate_left
        · intro w'
          go_simp
          with_reducible rfl
        rotate_left
        · simp only [Act.put, List.setIfInBounds_toArray, List.set_cons_zero, List.set_cons_succ, i64_w, i32_w]
          rfl
        refine pure_ (i := 14) (N := some 99) (v := ?_) (a' := ?_) #[true, true, true, true, true, true, true, true, true, true, true, true, true, true, true, false, false, false, false, false, false, false, false, false, false, false, false, false, false, false, false, false, false, false] rfl rfl (by kernel_rfl) (fun _ _ _ h => h) (Or.inl ⟨by rfl, ?_⟩) ?_ ?_
        rotate_left
        · intro w'
          go_simp
          with_reducible rfl
        rotate_left
        · simp only [Act.put, List.setIfInBounds_toArray, List.set_cons_zero, List.set_cons_succ, i64_w, i32_w]
          rfl
        refine take_ (i := 15) (N := some 100) (v := ?_) (a' := ?_) #[true, true, true, true, true, true, true, true, true, true, true, true, true, true, true, true, false, false, false, false, false, false, false, false, false, false, false, false, false, false, false, false, false, false] rfl rfl (by kernel_rfl) (fun _ _ _ h => h) (Or.inl ⟨by rfl, ?_⟩) hHeld ?_ ?_
        rotate_left
        · intro w' hSw
          obtain ⟨s0, s1, s2, s3, s4⟩ := hSw
          go_simp
          with_reducible rfl
        rotate_left
        · simp only [Act.put, List.setIfInBounds_toArray, List.set_cons_zero, List.set_cons_succ, i64_w, i32_w]
          rfl
        refine pure_ (i := 16) (N := some 101) (v := ?_) (a' := ?_) #[true, true, true, true, true, true, true, true, true, true, true, true, true, true, true, true, true, false, false, false, false, false, false, false, false, false, false, false, false, false, false, false, false, false] rfl rfl (by kernel_rfl) (fun _ _ _ h => h) (Or.inl ⟨by rfl, ?_⟩) ?_ ?_
        rotate_left
        · intro w'
          go_simp
          with_reducible rfl
        rotate_left
        · simp only [Act.put, List.setIfInBounds_toArray, List.set_cons_zero, List.set_cons_succ, i64_w, i32_w]
          rfl
        refine pure_ (i := 17) (N := some 102) (v := ?_) (a' := ?_) #[true, true, true, true, true, true, true, true, true, true, true, true, true, true, true, true, true, true, false, false, false, false, false, false, false, false, false, false, false, false, false, false, false, false] rfl rfl (by kernel_rfl) (fun _ _ _ h => h) (Or.inl ⟨by rfl, ?_⟩) ?_ ?_
        rotate_left
        · intro w'
          go_simp
          with_reducible rfl
        rotate_left
        · simp only [Act.put, List.setIfInBounds_toArray, List.set_cons_zero, List.set_cons_succ, i64_w, i32_w]
          rfl
        refine pure_ (i := 19) (N := some 104) (v := ?_) (a' := ?_) #[true, true, true, true, true, true, true, true, true, true, true, true, true, true, true, true, true, true, false, true, false, false, false, false, false, false, false, false, false, false, false, false, false, false] rfl rfl (by kernel_rfl) (fun _ _ _ h => h) (Or.inl ⟨by rfl, ?_⟩) ?_ ?_
        rotate_left
        · intro w'
          go_simp
          with_reducible rfl
        rotate_left
        · simp only [Act.put, List.setIfInBounds_toArray, List.set_cons_zero, List.set_cons_succ, i64_w, i32_w]
          rfl
        clear hHeld
        refine one_ (i := 18) (N := some 103) #[true, true, true, true, true, true, true, true, true, true, true, true, true, true, true, true, true, true, true, true, false, false, false, false, false, false, false, false, false, false, false, false, false, false] rfl rfl (by kernel_rfl) (by decide) (fun K hK => ?_)
        refine goes_ Tryd.func13 (by kernel_rfl) rfl #[.agg #[.int .i64 G.p, .int .i64 G.f, .slice X2 G.ws.length Xc2, .slice X3 G.ks.length Xc3, .slice X4 G.ac.length Xc4], .int .i64 owner, .int .i64 nn] (by rfl) rfl rfl (by (try simp only [List.map_toArray, List.map_cons, List.map_nil]); first | done | rfl | (simp only [List.length_drop, List.length_take]; rfl)) ?_
        (with_reducible refine (CBn.out _ (below_step H10.out.2 HB.out)).mono ?_)
        rintro e w11 ⟨rfl, hb⟩
        refine ⟨_, rfl, ?_⟩
        have HBn := Aside0.mk (below_step HB.out hb)
        clear HB
        have HB := HBn
        clear HBn
        clear hb
        refine hK.out _ _ (TS.out _ HB.out) (fun hHeld => ?_)
        clear hK K
        refine norm_ (a' := ?_) ?_ ?_
        rotate_left
        · show Act.put _ (some 103) _ = _
          simp only [Act.put, List.setIfInBounds_toArray, List.set_cons_zero, List.set_cons_succ, i64_w, i32_w]
          rfl
        refine pure_ (i := 20) (N := some 105) (v := ?_) (a' := ?_) #[true, true, true, true, true, true, true, true, true, true, true, true, true, true, true, true, true, true, true, true, true, false, false, false, false, false, false, false, false, false, false, false, false, false] rfl rfl (by kernel_rfl) (fun _ _ _ h => h) (Or.inl ⟨by rfl, ?_⟩) ?_ ?_
        rotate_left
        · intro w'
          go_simp
          with_reducible rfl
        rotate_left
        · simp only [Act.put, List.setIfInBounds_toArray, List.set_cons_zero, List.set_cons_succ, i64_w, i32_w]
          rfl
        refine pure_ (i := 21) (N := some 106) (v := ?_) (a' := ?_) #[true, true, true, true, true, true, true, true, true, true, true, true, true, true, true, true, true, true, true, true, true, true, false, false, false, false, false, false, false, false, false, false, false, false] rfl rfl (by kernel_rfl) (fun _ _ _ h => h) (Or.inl ⟨by rfl, ?_⟩) ?_ ?_
        rotate_left
        · intro w'
          go_simp
          with_reducible rfl
        rotate_left
        · simp only [Act.put, List.setIfInBounds_toArray, List.set_cons_zero, List.set_cons_succ, i64_w, i32_w]
          rfl
        refine pure_ (i := 22) (N := some 107) (v := ?_) (a' := ?_) #[true, true, true, true, true, true, true, true, true, true, true, true, true, true, true, true, true, true, true, true, true, true, true, false, false, false, false, false, false, false, false, false, false, false] rfl rfl (by kernel_rfl) (fun _ _ _ h => h) (Or.inl ⟨by rfl, ?_⟩) ?_ ?_
        rotate_left
        · intro w'
          go_simp
          with_reducible rfl
        rotate_left
        · simp only [Act.put, List.setIfInBounds_toArray, List.set_cons_zero, List.set_cons_succ, i64_w, i32_w]
          rfl
        refine take_ (i := 23) (N := some 108) (v := ?_) (a' := ?_) #[true, true, true, true, true, true, true, true, true, true, true, true, true, true, true, true, true, true, true, true, true, true, true, true, false, false, false, false, false, false, false, false, false, false] rfl rfl (by kernel_rfl) (fun _ _ _ h => h) (Or.inl ⟨by rfl, ?_⟩) hHeld ?_ ?_
        rotate_left
        · intro w' hSw
          obtain ⟨s0, s1, s2, s3, s4⟩ := hSw
          go_simp
          with_reducible rfl
        rotate_left
        · simp only [Act.put, List.setIfInBounds_toArray, List.set_cons_zero, List.set_cons_succ, i64_w, i32_w]
          rfl
        refine pure_ (i := 24) (N := some 109) (v := ?_) (a' := ?_) #[true, true, true, true, true, true, true, true, true, true, true, true, true, true, true, true, true, true, true, true, true, true, true, true, true, false, false, false, false, false, false, false, false, false] rfl rfl (by kernel_rfl) (fun _ _ _ h => h) (Or.inl ⟨by rfl, ?_⟩) ?_ ?_
        rotate_left
        · intro w'
          go_simp
          with_reducible rfl
        rotate_left
        · simp only [Act.put, List.setIfInBounds_toArray, List.set_cons_zero, List.set_cons_succ, i64_w, i32_w]
          rfl
        refine pure_ (i := 25) (N := some 110) (v := ?_) (a' := ?_) #[true, true, true, true, true, true, true, true, true, true, true, true, true, true, true, true, true, true, true, true, true, true, true, true, true, true, false, false, false, false, false, false, false, false] rfl rfl (by kernel_rfl) (fun _ _ _ h => h) (Or.inl ⟨by rfl, ?_⟩) ?_ ?_
        rotate_left
        · intro w'
          go_simp
          with_reducible rfl
        rotate_left
        · simp only [Act.put, List.setIfInBounds_toArray, List.set_cons_zero, List.set_cons_succ, i64_w, i32_w]
          rfl
        refine take_ (i := 27) (N := some 112) (v := ?_) (a' := ?_) #[true, true, true, true, true, true, true, true, true, true, true, true, true, true, true, true, true, true, true, true, true, true, true, true, true, true, false, true, false, false, false, false, false, false] rfl rfl (by kernel_rfl) (fun _ _ _ h => h) (Or.inl ⟨by rfl, ?_⟩) hHeld ?_ ?_
        rotate_left
        · intro w' hSw
          obtain ⟨s0, s1, s2, s3, s4⟩ := hSw
          go_simp
          with_reducible rfl
        rotate_left
        · simp only [Act.put, List.setIfInBounds_toArray, List.set_cons_zero, List.set_cons_succ, i64_w, i32_w]
          rfl
        refine pure_ (i := 28) (N := some 113) (v := ?_) (a' := ?_) #[true, true, true, true, true, true, true, true, true, true, true, true, true, true, true, true, true, true, true, true, true, true, true, true, true, true, false, true, true, false, false, false, false, false] rfl rfl (by kernel_rfl) (fun _ _ _ h => h) (Or.inl ⟨by rfl, ?_⟩) ?_ ?_
        rotate_left
        · intro w'
          go_simp
          with_reducible rfl
        rotate_left
        · simp only [Act.put, List.setIfInBounds_toArray, List.set_cons_zero, List.set_cons_succ, i64_w, i32_w]
          rfl
        refine pure_ (i := 29) (N := some 114) (v := ?_) (a' := ?_) #[true, true, true, true, true, true, true, true, true, true, true, true, true, true, true, true, true, true, true, true, true, true, true, true, true, true, false, true, true, true, false, false, false, false] rfl rfl (by kernel_rfl) (fun _ _ _ h => h) (Or.inl ⟨by rfl, ?_⟩) ?_ ?_
        rotate_left
        · intro w'
          go_simp
          with_reducible rfl
        rotate_left
        · simp only [Act.put, List.setIfInBounds_toArray, List.set_cons_zero, List.set_cons_succ, i64_w, i32_w]
          rfl
        clear hHeld
        refine one_ (i := 26) (N := some 111) #[true, true, true, true, true, true, true, true, true, true, true, true, true, true, true, true, true, true, true, true, true, true, true, true, true, true, true, true, true, true, false, false, false, false] rfl rfl (by kernel_rfl) (by decide) (fun K hK => ?_)
        refine goes_ Tryd.func13 (by kernel_rfl) rfl #[.agg #[.int .i64 G.p, .int .i64 G.f, .slice X2 G.ws.length Xc2, .slice X3 G.ks.length Xc3, .slice X4 G.ac.length Xc4], .int .i64 owner, .int .i64 u] (by rfl) rfl rfl (by (try simp only [List.map_toArray, List.map_cons, List.map_nil]); first | done | rfl | (simp only [List.length_drop, List.length_take]; rfl)) ?_
        (with_reducible refine (CBu.out _ (below_step H10.out.2 HB.out)).mono ?_)
        rintro e w11 ⟨rfl, hb⟩
        refine ⟨_, rfl, ?_⟩
        have HBn := Aside0.mk (below_step HB.out hb)
        clear HB
        have HB := HBn
        clear HBn
        clear hb
        refine hK.out _ _ (TS.out _ HB.out) (fun hHeld => ?_)
        clear hK K
        refine norm_ (a' := ?_) ?_ ?_
        rotate_left
        · show Act.put _ (some 111) _ = _
          simp only [Act.put, List.setIfInBounds_toArray, List.set_cons_zero, List.set_cons_succ, i64_w, i32_w]
          rfl
        clear hHeld
        refine one_ (i := 30) (N := some 115) #[true, true, true, true, true, true, true, true, true, true, true, true, true, true, true, true, true, true, true, true, true, true, true, true, true, true, true, true, true, true, true, false, false, false] rfl rfl (by kernel_rfl) (by decide) (fun K hK => ?_)
        refine goes_ Tryd.func13 (by kernel_rfl) rfl #[.agg #[.int .i64 G.p, .int .i64 G.f, .slice X2 G.ws.length Xc2, .slice X3 G.ks.length Xc3, .slice X4 G.ac.length Xc4], .int .i64 owner, .int .i64 m] (by rfl) rfl rfl (by (try simp only [List.map_toArray, List.map_cons, List.map_nil]); first | done | rfl | (simp only [List.length_drop, List.length_take]; rfl)) ?_
        (with_reducible refine (CBm.out _ (below_step H10.out.2 HB.out)).mono ?_)
        rintro e w11 ⟨rfl, hb⟩
        refine ⟨_, rfl, ?_⟩
        have HBn := Aside0.mk (below_step HB.out hb)
        clear HB
        have HB := HBn
        clear HBn
        clear hb
        refine hK.out _ _ (TS.out _ HB.out) (fun hHeld => ?_)
        clear hK K
        refine norm_ (a' := ?_) ?_ ?_
        rotate_left
        · show Act.put _ (some 115) _ = _
          simp only [Act.put, List.setIfInBounds_toArray, List.set_cons_zero, List.set_cons_succ, i64_w, i32_w]
          rfl
        refine pure_ (i := 31) (N := some 116) (v := ?_) (a' := ?_) #[true, true, true, true, true, true, true, true, true, true, true, true, true, true, true, true, true, true, true, true, true, true, true, true, true, true, true, true, true, true, true, true, false, false] rfl rfl (by kernel_rfl) (fun _ _ _ h => h) (Or.inl ⟨by rfl, ?_⟩) ?_ ?_
        rotate_left
        · intro w'
          go_simp
          with_reducible rfl
        rotate_left
        · simp only [Act.put, List.setIfInBounds_toArray, List.set_cons_zero, List.set_cons_succ, i64_w, i32_w]
          rfl
        refine pure_ (i := 32) (N := some 117) (v := ?_) (a' := ?_) #[true, true, true, true, true, true, true, true, true, true, true, true, true, true, true, true, true, true, true, true, true, true, true, true, true, true, true, true, true, true, true, true, true, false] rfl rfl (by kernel_rfl) (fun _ _ _ h => h) (Or.inl ⟨by rfl, ?_⟩) ?_ ?_
        rotate_left
        · intro w'
          go_simp
          with_reducible rfl
        rotate_left
        · simp only [Act.put, List.setIfInBounds_toArray, List.set_cons_zero, List.set_cons_succ, i64_w, i32_w]
          rfl
        refine pure_ (i := 33) (N := some 6) (v := ?_) (a' := ?_) #[true, true, true, true, true, true, true, true, true, true, true, true, true, true, true, true, true, true, true, true, true, true, true, true, true, true, true, true, true, true, true, true, true, true] rfl rfl (by kernel_rfl) (fun _ _ _ h => h) (Or.inl ⟨by rfl, ?_⟩) ?_ ?_
        rotate_left
        · intro w'
          go_simp
          with_reducible rfl
        rotate_left
        · simp only [Act.put, List.setIfInBounds_toArray, List.set_cons_zero, List.set_cons_succ, i64_w, i32_w]
          rfl
        refine done_ (by kernel_rfl) ?_
        go_wp2
        go_ret
        exact ⟨rfl, below_step B5.out (below_step H10.out.2 HB.out)⟩
end Go.Proofs.YtmmkbgilcggkkaaDoor.Wn
