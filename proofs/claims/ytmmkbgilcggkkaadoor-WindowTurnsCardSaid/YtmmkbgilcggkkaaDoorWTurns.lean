/- WindowTurns: the walk. -/
import Derived.Test.YtmmkbgilcggkkaaDoorWp
import Derived.Test.YtmmkbgilcggkkaaDoorGw
import Derived.Test.YtmmkbgilcggkkaaDoorFew
import Derived.Test.YtmmkbgilcggkkaaDoorWm
import Derived.Deep.RegionHeld3
set_option linter.unusedVariables false
set_option linter.unusedSimpArgs false
namespace Go.Proofs.YtmmkbgilcggkkaaDoor.Wn
open Go Go.RowKit Go.Shelf Go.Proofs.YtmmkbgilcggkkaaDoorW.PrintWords Go.Proofs.YtmmkbgilcggkkaaDoorW.PrintLast Go.Proofs.YtmmkbgilcggkkaaDoorW.PrintMore Go.Proofs.YtmmkbgilcggkkaaDoor.Cz Go.Proofs.YtmmkbgilcggkkaaDoor.PWindowCalls Go.Proofs.YtmmkbgilcggkkaaDoor.Cf Go.Proofs.YtmmkbgilcggkkaaDoor.Sat
attribute [local go_sem] max2_int min2_int max_two min_two max_three min_three max_four min_four Tryd.underlying26 Tryd.underlying41 Tryd.underlying37
set_option maxHeartbeats 16000000 in
set_option maxRecDepth 100000 in
theorem windowTurns_any (now : Int) {C : Cfg} {A2 A3 A4 : Option Addr} {Ac2 Ac3 Ac4 : Nat} {w : World} (h : CX w C A2 Ac2 A3 Ac3 A4 Ac4)
    (l2 : C.ws.length ≤ maxLen) (l3 : C.ks.length ≤ maxLen) (l4 : C.ac.length ≤ maxLen) (hg : LG w) :
    Calls Tryd.prog 8 #[.agg #[.int .i64 C.p, .int .i64 C.f, .slice A2 C.ws.length Ac2, .slice A3 C.ks.length Ac3, .slice A4 C.ac.length Ac4], .int .i64 now] w fun e w' => e = .returned (.bool true) ∧ Below w.heap.size w w' := by
  have FA := Aside0.mk (fun w1 (hb : Below w.heap.size w w1) => few_any (h.below hb) l2 l3 l4)
  have HXD := Aside0.mk h.few
  have HG := Aside0.mk hg
  have B1 := Aside0.mk (And.intro (blk_new w (.cells #[.int .i64 C.p, .int .i64 C.f, .slice A2 C.ws.length Ac2, .slice A3 C.ks.length Ac3, .slice A4 C.ac.length Ac4] 26)) (below_alloc (Below.refl w.heap.size w) (.cells #[.int .i64 C.p, .int .i64 C.f, .slice A2 C.ws.length Ac2, .slice A3 C.ks.length Ac3, .slice A4 C.ac.length Ac4] 26)))
  clear h l2 l3 l4 hg
  generalize fewC C = D at FA HXD
  go_enter Tryd.func8, Tryd.ntmps8
  go_upto_region 3 with (first | (go_at_call 10; refine (lives_any (HG.out.below B1.out.2)).mono ?_; rintro e w2 ⟨rfl, hb⟩; have B2_ := Aside0.mk (And.intro (blk_below B1.out.1 hb) (below_step B1.out.2 hb)); clear hb))
  have s0 := (blk_cell B2_.out.1 0).trans (show _ = some (.int .i64 C.p) from rfl)
  have s1 := (blk_cell B2_.out.1 1).trans (show _ = some (.int .i64 C.f) from rfl)
  have s2 := (blk_cell B2_.out.1 2).trans (show _ = some (.slice A2 C.ws.length Ac2) from rfl)
  have s3 := (blk_cell B2_.out.1 3).trans (show _ = some (.slice A3 C.ks.length Ac3) from rfl)
  have s4 := (blk_cell B2_.out.1 4).trans (show _ = some (.slice A4 C.ac.length Ac4) from rfl)
  clear B1
  go_upto_region 4 with (first | (go_at_call 12; refine (FA.out _ B2_.out.2).mono ?_; rintro e w3 ⟨rfl, hb⟩; have B3 := Aside0.mk (below_step B2_.out.2 hb); clear hb) | (go_at_call 11; refine (good_any (HXD.out.below B3.out)).mono ?_; rintro e w5 ⟨G, X2, Xc2, X3, Xc3, X4, Xc4, hG, rfl, hx, hb⟩; have HX := Aside0.mk hx; have B5 := Aside0.mk (below_step B3.out hb); have HGG := Aside0.mk hG; clear hb hx hG))
  clear s0 s1 s2 s3 s4 B2_ B3 FA HXD
  have H6 : (w5.alloc (.cells #[.int .i64 G.p, .int .i64 G.f, .slice X2 G.ws.length Xc2, .slice X3 G.ks.length Xc3, .slice X4 G.ac.length Xc4] 26)).heap[w5.heap.size]? = some (.cells #[.int .i64 G.p, .int .i64 G.f, .slice X2 G.ws.length Xc2, .slice X3 G.ks.length Xc3, .slice X4 G.ac.length Xc4] 26 (0, 0)) ∧ Below w5.heap.size w5 (w5.alloc (.cells #[.int .i64 G.p, .int .i64 G.f, .slice X2 G.ws.length Xc2, .slice X3 G.ks.length Xc3, .slice X4 G.ac.length Xc4] 26)) := ⟨blk_new _ _, below_alloc (Below.refl _ _) _⟩
  have HG5 := Aside0.mk (HG.out.below B5.out)
  clear HG
  revert H6
  generalize (w5.alloc (.cells #[.int .i64 G.p, .int .i64 G.f, .slice X2 G.ws.length Xc2, .slice X3 G.ks.length Xc3, .slice X4 G.ac.length Xc4] 26)) = W6
  intro H6
  have HM := um now 10000 (by decide) (by decide)
  obtain ⟨m, hm⟩ : ∃ m, wrap64 (Int.tmod (IntKind.u64.wrap now) 10000) = m := ⟨_, rfl⟩
  rw [hm] at HM
  have hm0 : 0 ≤ m := by omega
  have hm1 : m < 10000 := by omega
  clear HM
  have k1 : G.ks.length ≤ 1000 := by have := HGG.out.k; omega
  have k2 : G.ac.length ≤ 1000 := by have := HGG.out.a; have := HGG.out.p; omega
  have k3 : G.ws.length ≤ 1000 := by have := HGG.out.w; omega
  have hks : G.ks.length ≤ 5 := HGG.out.k
  have hql := qu_len G.ks G.ks.length
  have HXK := Aside0.mk HX.out.k
  have CN : Aside0 (∀ (s : Int) (W : World), Below w5.heap.size w5 W → Calls Tryd.prog 15 #[.agg #[.int .i64 G.p, .int .i64 G.f, .slice X2 G.ws.length Xc2, .slice X3 G.ks.length Xc3, .slice X4 G.ac.length Xc4], .int .i64 (-1), .int .i64 s] W fun e w' => e = .returned (.int .i64 (nthN G (-1) s)) ∧ Below W.heap.size W w') := ⟨fun s W hb => nth_any (HX.out.below hb) (HG5.out.below hb) k1 k2 k3 (-1) s⟩
  have CS : Aside0 (∀ (t : Int) (W : World), Below w5.heap.size w5 W → Calls Tryd.prog 19 #[.agg #[.int .i64 G.p, .int .i64 G.f, .slice X2 G.ws.length Xc2, .slice X3 G.ks.length Xc3, .slice X4 G.ac.length Xc4], .int .i64 t] W fun e w' => e = .returned (.tuple #[.int .i64 ((servesN G t).getD 0), .bool (servesN G t).isSome]) ∧ Below W.heap.size W w') := ⟨fun t W hb => serves_any (HX.out.below hb) (HG5.out.below hb) k1 k2 k3 t⟩
  have CC : Aside0 (∀ W : World, Below w5.heap.size w5 W → Calls Tryd.prog 17 #[.agg #[.int .i64 G.p, .int .i64 G.f, .slice X2 G.ws.length Xc2, .slice X3 G.ks.length Xc3, .slice X4 G.ac.length Xc4], .int .i64 (-1)] W fun e w' => e = .returned (.int .i64 (countN G (-1))) ∧ Below W.heap.size W w') := ⟨fun W hb => count_any (HX.out.below hb) (HG5.out.below hb) k1 k2 k3 (-1)⟩
  clear k1 k2 k3 HX HG5
  have g0 := (blk_cell H6.1 0).trans (show _ = some (.int .i64 G.p) from rfl)
  have g1 := (blk_cell H6.1 1).trans (show _ = some (.int .i64 G.f) from rfl)
  have g2 := (blk_cell H6.1 2).trans (show _ = some (.slice X2 G.ws.length Xc2) from rfl)
  have g3 := (blk_cell H6.1 3).trans (show _ = some (.slice X3 G.ks.length Xc3) from rfl)
  have g4 := (blk_cell H6.1 4).trans (show _ = some (.slice X4 G.ac.length Xc4) from rfl)
  have I1 : Aside0 (SS w5 W6 (.slice none 0 0) (qu G.ks 0) #[.int .i64 G.p, .int .i64 G.f, .slice X2 G.ws.length Xc2, .slice X3 G.ks.length Xc3, .slice X4 G.ac.length Xc4]) := ⟨⟨H6.1, Kd.R_nil _ _ _ _ _, H6.2⟩⟩
  clear H6
  go_wp2
  clear g0 g1 g2 g3 g4
  go_loopw [6, 7] (fun v6 v7 wr => ∃ j : Nat, v7 = .int .i64 j ∧ j ≤ G.ks.length ∧ Aside0 (SS w5 wr v6 (qu G.ks j) #[.int .i64 G.p, .int .i64 G.f, .slice X2 G.ws.length Xc2, .slice X3 G.ks.length Xc3, .slice X4 G.ac.length Xc4])) (fun _ v7 _ => G.ks.length - (intOf v7).toNat)
  case atStart => exact ⟨0, rfl, by omega, I1⟩
  case round =>
    clear I1
    rename_i gv6 gv7
    obtain ⟨j, rfl, hj, HI⟩ := hrel
    have g0 := (blk_cell HI.out.bg 0).trans (show _ = some (.int .i64 G.p) from rfl)
    have g1 := (blk_cell HI.out.bg 1).trans (show _ = some (.int .i64 G.f) from rfl)
    have g2 := (blk_cell HI.out.bg 2).trans (show _ = some (.slice X2 G.ws.length Xc2) from rfl)
    have g3 := (blk_cell HI.out.bg 3).trans (show _ = some (.slice X3 G.ks.length Xc3) from rfl)
    have g4 := (blk_cell HI.out.bg 4).trans (show _ = some (.slice X4 G.ac.length Xc4) from rfl)
    by_cases hlt : j < G.ks.length
    · have d1 : decide ((j : Int) < (G.ks.length : Int)) = true := decide_eq_true (by omega)
      have d1n : decide (j < G.ks.length) = true := decide_eq_true hlt
      have hcs := at_T37 (Kd.C_below HXK.out HI.out.bel) (j : Int) (by omega) (by omega)
      rw [show rd_T37 G.ks (j : Int) = G.ks[j] by simp [rd_T37, hlt], Int.toNat_natCast] at hcs
      have HY := Aside0.mk (fun h => qu_yes (ks := G.ks) hlt h)
      have HN := Aside0.mk (fun h => qu_no (ks := G.ks) hlt h)
      have hjl := qu_len G.ks j
      generalize G.ks[j] = x at hcs HY HN
      obtain ⟨x0, x1, x2, x3, x4, x5, x6, x7, x8, x9, x10⟩ := x
      obtain ⟨ad, rfl, e0, e1, e2, e3, e4, e5, e6, e7, e8, e9, e10⟩ := hcs
      simp only [] at e0 HY HN
      clear e1 e2 e3 e4 e5 e6 e7 e8 e9 e10
      have hj0 : 0 ≤ (j : Int) := by omega
      have hj1 : (j : Int) < G.ks.length := by omega
      by_cases hk : x0 = 1
      · have q1 : decide (x0 = 1) = true := decide_eq_true hk
        have q2 : (x0 == 1) = true := beq_iff_eq.mpr hk
        have HYY := Aside0.mk (HY.out hk)
        clear hk
        go_wp2_with (first | ((with_reducible refine gate_builtin (b := .append) (xs := #[.tmp 31, .tmp 33]) rfl ?_); at_builtin; refine Kd.R_append (Kd.int .i64) (w0 := w5) w5.heap.size rfl (.tmp 31) (.tmp 33) 24 3 (.int .i64 0) 8 rfl Tryd.underlying24 info3 rfl (by decide) (by omega) _ (qu G.ks j) (j : Int) [.int .i64 j] (fun k => w5.heap.size ≤ k) (fun _ => False) rfl rfl ?aP (fun _ hk => hk.elim) ?aF HI.out.r HI.out.bel ?aS ?aL ?_; (case aP => exact rfl); (case aF => exact (fun k hk => Nat.le_trans HI.out.bel.size hk)); (case aS => exact HI.out.bel.size); (case aL => omega); intro v9 w9 ho hb hg9 hat; have HI9 : Aside0 (SS w5 w9 v9 (qu G.ks j ++ [(j : Int)]) _) := ⟨blk_grown HI.out.bg hg9 (Kd.R_ne HI.out.r HI.out.bg (by decide)), ho, hb⟩; clear ho hb hg9 hat))
        go_roundw
        case rel => exact ⟨j + 1, by go_num, by omega, by rw [HYY.out]; exact HI9⟩
        case measure => simp [intOf]; omega
      · have q1 : decide (x0 = 1) = false := decide_eq_false hk
        have q2 : (x0 == 1) = false := beq_eq_false_iff_ne.mpr hk
        have HNN := Aside0.mk (HN.out hk)
        clear hk
        go_wp2
        go_roundw
        case rel => exact ⟨j + 1, by go_num, by omega, by rw [HNN.out]; exact HI⟩
        case measure => simp [intOf]; omega
    · have d1 : decide ((j : Int) < (G.ks.length : Int)) = false := decide_eq_false (by omega)
      have d1n : decide (j < G.ks.length) = false := decide_eq_false hlt
      obtain rfl : j = G.ks.length := by omega
      have hqq : qu G.ks G.ks.length = qs G := rfl
      rw [hqq] at HI hql
      clear hqq
      obtain ⟨B, d, rfl, hd, hcq⟩ := Kd.R_reads HI.out.r
      have HCQ := Aside0.mk hcq
      clear hcq
      go_upto_region 11 with (first | fail)
      rw [hm]
      clear hm g0 g1 g2 g3 g4 d1 d1n hlt hj
      go_wp2
      go_loopw [8] (fun v8 W => ∃ i : Int, v8 = .int .i64 i ∧ 0 ≤ i ∧ i ≤ 12 ∧ Aside0 (Below wr.heap.size wr W)) (fun v8 _ => (12 - intOf v8).toNat)
      case atStart => exact ⟨0, rfl, by omega, by omega, ⟨Below.refl _ _⟩⟩
      case round =>
        rename_i W9 gv8
        obtain ⟨i, rfl, hi0, hi1, HBL⟩ := hrel
        have g0 := (blk_cell (blk_below HI.out.bg HBL.out) 0).trans (show _ = some (.int .i64 G.p) from rfl)
        have g1 := (blk_cell (blk_below HI.out.bg HBL.out) 1).trans (show _ = some (.int .i64 G.f) from rfl)
        have g2 := (blk_cell (blk_below HI.out.bg HBL.out) 2).trans (show _ = some (.slice X2 G.ws.length Xc2) from rfl)
        have g3 := (blk_cell (blk_below HI.out.bg HBL.out) 3).trans (show _ = some (.slice X3 G.ks.length Xc3) from rfl)
        have g4 := (blk_cell (blk_below HI.out.bg HBL.out) 4).trans (show _ = some (.slice X4 G.ac.length Xc4) from rfl)
        by_cases hlt : i < 12
        · have d1 : decide (i < 12) = true := decide_eq_true hlt
          have hi2 : wrap64 (i + 1) = i + 1 := w64_in (by omega) (by omega)
          obtain ⟨s, hs⟩ : ∃ s, m + i = s := ⟨_, rfl⟩
          have hs0 : 0 ≤ s := by omega
          have hs1 : s ≤ 10011 := by omega
          have hsw : wrap64 (m + i) = s := by rw [hs]; exact w64_in (by omega) (by omega)
          have hsI : IntKind.i64.wrap (m + i) = s := (IntWalk.i64_left _).trans hsw
          have CNs := Aside0.mk (CN.out s)
          clear hs
          by_cases hc : countN G (-1) = 0
          · rw [good_nth_no HGG.out hc] at CNs
            have CC0 := CC
            rw [hc] at CC0
            clear hc
            go_wp2_with (first | (go_at_call 15; (with_reducible refine (CNs.out _ (below_step HI.out.bel HBL.out)).mono ?_); rintro e w10 ⟨rfl, hb⟩; have H10 := Aside0.mk (below_step HBL.out hb); clear hb g0 g1 g2 g3 g4; have g0 := (blk_cell (blk_below HI.out.bg H10.out) 0).trans (show _ = some (.int .i64 G.p) from rfl); have g1 := (blk_cell (blk_below HI.out.bg H10.out) 1).trans (show _ = some (.int .i64 G.f) from rfl); have g2 := (blk_cell (blk_below HI.out.bg H10.out) 2).trans (show _ = some (.slice X2 G.ws.length Xc2) from rfl); have g3 := (blk_cell (blk_below HI.out.bg H10.out) 3).trans (show _ = some (.slice X3 G.ks.length Xc3) from rfl); have g4 := (blk_cell (blk_below HI.out.bg H10.out) 4).trans (show _ = some (.slice X4 G.ac.length Xc4) from rfl)) | (go_at_call 17; (with_reducible refine (CC0.out _ (below_step HI.out.bel H10.out)).mono ?_); rintro e w11 ⟨rfl, hb⟩; have H11 := Aside0.mk (below_step H10.out hb); clear hb g0 g1 g2 g3 g4))
            go_ret
            exact ⟨rfl, below_step B5.out (below_step HI.out.bel H11.out)⟩
          · obtain ⟨hn1, hn2, hn3⟩ := good_nth HGG.out (m := s) (o := -1) hs0 (by omega) hc
            clear hc
            have hsv : servesN G (nthN G (-1) s) = if qs G = [] then none else some (rd (qs G) (s.tmod (qs G).length)) := by unfold servesN; rw [if_pos hn2, hn3]
            have CSt := Aside0.mk (CS.out (nthN G (-1) s))
            rw [hsv] at CSt
            have ht0 := hn1.1
            clear hn1 hn2 hn3 hsv
            generalize nthN G (-1) s = t at CNs CSt ht0
            have d2 : decide (t < 0) = false := decide_eq_false (by omega)
            generalize qs G = q at HI hql hd HCQ CSt
            by_cases hq : q = []
            · subst hq
              rw [if_pos rfl] at CSt
              have hop : (none : Option Int).getD 0 = 0 := rfl
              have hos : (none : Option Int).isSome = false := rfl
              rw [hop, hos] at CSt
              clear hop hos
              simp only [List.length_nil]
              go_wp2_with (first | (go_at_call 15; (with_reducible refine (CNs.out _ (below_step HI.out.bel HBL.out)).mono ?_); rintro e w10 ⟨rfl, hb⟩; have H10 := Aside0.mk (below_step HBL.out hb); clear hb g0 g1 g2 g3 g4; have g0 := (blk_cell (blk_below HI.out.bg H10.out) 0).trans (show _ = some (.int .i64 G.p) from rfl); have g1 := (blk_cell (blk_below HI.out.bg H10.out) 1).trans (show _ = some (.int .i64 G.f) from rfl); have g2 := (blk_cell (blk_below HI.out.bg H10.out) 2).trans (show _ = some (.slice X2 G.ws.length Xc2) from rfl); have g3 := (blk_cell (blk_below HI.out.bg H10.out) 3).trans (show _ = some (.slice X3 G.ks.length Xc3) from rfl); have g4 := (blk_cell (blk_below HI.out.bg H10.out) 4).trans (show _ = some (.slice X4 G.ac.length Xc4) from rfl)) | (go_at_call 19; (with_reducible refine (CSt.out _ (below_step HI.out.bel H10.out)).mono ?_); rintro e w11 ⟨rfl, hb⟩; have H11 := Aside0.mk (below_step H10.out hb); clear hb g0 g1 g2 g3 g4))
              go_roundw
              case rel => exact ⟨i + 1, by first | rfl | rw [hi2] | go_num, by omega, by omega, H11⟩
              case measure => simp [intOf]; omega
            · rw [if_neg hq] at CSt
              have hql0 : 0 < q.length := List.length_pos_iff.2 hq
              generalize hi : s.tmod (q.length : Int) = r at CSt
              have hop : (some (rd q r)).getD 0 = rd q r := rfl
              have hos : (some (rd q r)).isSome = true := rfl
              rw [hop, hos] at CSt
              clear hop hos hq
              have i0 : 0 ≤ r := by rw [← hi]; exact Int.tmod_nonneg _ hs0
              have i1 : r < q.length := by rw [← hi]; exact Int.tmod_lt_of_pos _ (by omega)
              obtain ⟨n, hn⟩ : ∃ n, q.length = n := ⟨_, rfl⟩
              rw [hn] at hql0 hql hd HCQ hi i1 ⊢
              clear hn
              have hnz : (n : Int) ≠ 0 := by omega
              have e1 : decide ((n : Int) = 0) = false := decide_eq_false hnz
              have e2 : ((n : Int) == 0) = false := beq_eq_false_iff_ne.mpr hnz
              have e3 : decide (n = 0) = false := decide_eq_false (by omega)
              have e4 : (n == 0) = false := beq_eq_false_iff_ne.mpr (by omega)
              go_wp2_with (first | (go_at_call 15; (with_reducible refine (CNs.out _ (below_step HI.out.bel HBL.out)).mono ?_); rintro e w10 ⟨rfl, hb⟩; have H10 := Aside0.mk (below_step HBL.out hb); clear hb g0 g1 g2 g3 g4; have g0 := (blk_cell (blk_below HI.out.bg H10.out) 0).trans (show _ = some (.int .i64 G.p) from rfl); have g1 := (blk_cell (blk_below HI.out.bg H10.out) 1).trans (show _ = some (.int .i64 G.f) from rfl); have g2 := (blk_cell (blk_below HI.out.bg H10.out) 2).trans (show _ = some (.slice X2 G.ws.length Xc2) from rfl); have g3 := (blk_cell (blk_below HI.out.bg H10.out) 3).trans (show _ = some (.slice X3 G.ks.length Xc3) from rfl); have g4 := (blk_cell (blk_below HI.out.bg H10.out) 4).trans (show _ = some (.slice X4 G.ac.length Xc4) from rfl)) | (go_at_call 19; (with_reducible refine (CSt.out _ (below_step HI.out.bel H10.out)).mono ?_); rintro e w11 ⟨rfl, hb⟩; obtain ⟨ad, rfl, hcell0⟩ := Kd.at_int (Kd.C_below HCQ.out (below_step H10.out hb)) r i0 i1; have H11 := Aside0.mk (below_step H10.out hb); clear hb g0 g1 g2 g3 g4))
              go_roundw
              case rel => exact ⟨i + 1, by first | rfl | rw [hi2] | go_num, by omega, by omega, H11⟩
              case measure => simp [intOf]; omega
        · have d1 : decide (i < 12) = false := decide_eq_false hlt
          go_wp2
          go_ret
          exact ⟨rfl, below_step B5.out (below_step HI.out.bel HBL.out)⟩
end Go.Proofs.YtmmkbgilcggkkaaDoor.Wn
