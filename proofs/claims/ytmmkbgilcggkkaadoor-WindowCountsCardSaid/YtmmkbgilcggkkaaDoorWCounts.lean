/- WindowCounts: the walk. -/
import Derived.Test.YtmmkbgilcggkkaaDoorWp
import Derived.Test.YtmmkbgilcggkkaaDoorGw
import Derived.Test.YtmmkbgilcggkkaaDoorFew
import Derived.Test.YtmmkbgilcggkkaaDoorWm
import Derived.Deep.RegionHeld3
set_option linter.unusedVariables false
set_option linter.unusedSimpArgs false
namespace Go.Proofs.YtmmkbgilcggkkaaDoor.Wn
open Go Go.RowKit Go.Shelf Go.Proofs.YtmmkbgilcggkkaaDoorW.PrintWords Go.Proofs.YtmmkbgilcggkkaaDoorW.PrintLast Go.Proofs.YtmmkbgilcggkkaaDoorW.PrintMore Go.Proofs.YtmmkbgilcggkkaaDoor.Cz Go.Proofs.YtmmkbgilcggkkaaDoor.PWindowCalls Go.Proofs.YtmmkbgilcggkkaaDoor.Cf Go.Proofs.YtmmkbgilcggkkaaDoor.Sat
attribute [local go_sem] max2_int min2_int max_two min_two max_three min_three max_four min_four Tryd.underlying26 Tryd.underlying41 Tryd.underlying37
set_option maxHeartbeats 16000000 in
set_option maxRecDepth 100000 in
theorem windowCounts_any (owner : Int) (now : Int) {C : Cfg} {A2 A3 A4 : Option Addr} {Ac2 Ac3 Ac4 : Nat} {w : World} (h : CX w C A2 Ac2 A3 Ac3 A4 Ac4)
    (l2 : C.ws.length ≤ maxLen) (l3 : C.ks.length ≤ maxLen) (l4 : C.ac.length ≤ maxLen) (hg : LG w) :
    Calls Tryd.prog 3 #[.agg #[.int .i64 C.p, .int .i64 C.f, .slice A2 C.ws.length Ac2, .slice A3 C.ks.length Ac3, .slice A4 C.ac.length Ac4], .int .i64 owner, .int .i64 now] w fun e w' => e = .returned (.bool true) ∧ Below w.heap.size w w' := by
  have FA := Aside0.mk (fun w1 (hb : Below w.heap.size w w1) => few_any (h.below hb) l2 l3 l4)
  have HXD := Aside0.mk h.few
  have HG := Aside0.mk hg
  have B1 := Aside0.mk (And.intro (blk_new w (.cells #[.int .i64 C.p, .int .i64 C.f, .slice A2 C.ws.length Ac2, .slice A3 C.ks.length Ac3, .slice A4 C.ac.length Ac4] 26)) (below_alloc (Below.refl w.heap.size w) (.cells #[.int .i64 C.p, .int .i64 C.f, .slice A2 C.ws.length Ac2, .slice A3 C.ks.length Ac3, .slice A4 C.ac.length Ac4] 26)))
  clear h l2 l3 l4 hg
  generalize fewC C = D at FA HXD
  go_enter Tryd.func3, Tryd.ntmps3
  go_upto_region 3 with (first | (go_at_call 10; refine (lives_any (HG.out.below B1.out.2)).mono ?_; rintro e w2 ⟨rfl, hb⟩; have B2_ := Aside0.mk (And.intro (blk_below B1.out.1 hb) (below_step B1.out.2 hb)); clear hb))
  have s0 := (blk_cell B2_.out.1 0).trans (show _ = some (.int .i64 C.p) from rfl)
  have s1 := (blk_cell B2_.out.1 1).trans (show _ = some (.int .i64 C.f) from rfl)
  have s2 := (blk_cell B2_.out.1 2).trans (show _ = some (.slice A2 C.ws.length Ac2) from rfl)
  have s3 := (blk_cell B2_.out.1 3).trans (show _ = some (.slice A3 C.ks.length Ac3) from rfl)
  have s4 := (blk_cell B2_.out.1 4).trans (show _ = some (.slice A4 C.ac.length Ac4) from rfl)
  clear B1
  go_upto_region 4 with (first | (go_at_call 12; refine (FA.out _ B2_.out.2).mono ?_; rintro e w3 ⟨rfl, hb⟩; have B3 := Aside0.mk (below_step B2_.out.2 hb); clear hb) | (go_at_call 11; refine (good_any (HXD.out.below B3.out)).mono ?_; rintro e w5 ⟨G, X2, Xc2, X3, Xc3, X4, Xc4, hG, rfl, hx, hb⟩; have HX := Aside0.mk hx; have B5 := Aside0.mk (below_step B3.out hb); have HGG := Aside0.mk hG; clear hb hx hG))
  clear s0 s1 s2 s3 s4 B2_ B3 FA HXD
  have H6 : (w5.alloc (.cells #[.int .i64 G.p, .int .i64 G.f, .slice X2 G.ws.length Xc2, .slice X3 G.ks.length Xc3, .slice X4 G.ac.length Xc4] 26)).heap[w5.heap.size]? = some (.cells #[.int .i64 G.p, .int .i64 G.f, .slice X2 G.ws.length Xc2, .slice X3 G.ks.length Xc3, .slice X4 G.ac.length Xc4] 26 (0, 0)) ∧ Below w5.heap.size w5 (w5.alloc (.cells #[.int .i64 G.p, .int .i64 G.f, .slice X2 G.ws.length Xc2, .slice X3 G.ks.length Xc3, .slice X4 G.ac.length Xc4] 26)) := ⟨blk_new _ _, below_alloc (Below.refl _ _) _⟩
  have HG5 := Aside0.mk (HG.out.below B5.out)
  clear HG
  revert H6
  generalize (w5.alloc (.cells #[.int .i64 G.p, .int .i64 G.f, .slice X2 G.ws.length Xc2, .slice X3 G.ks.length Xc3, .slice X4 G.ac.length Xc4] 26)) = W6
  intro H6
  have HM := um now 300 (by decide) (by decide)
  obtain ⟨m, hm⟩ : ∃ m, wrap64 (Int.tmod (IntKind.u64.wrap now) 300) = m := ⟨_, rfl⟩
  rw [hm] at HM
  have hm0 : 0 ≤ m := by omega
  have hm1 : m < 300 := by omega
  clear HM
  have k1 : G.ks.length ≤ 1000 := by have := HGG.out.k; omega
  have k2 : G.ac.length ≤ 1000 := by have := HGG.out.a; have := HGG.out.p; omega
  have k3 : G.ws.length ≤ 1000 := by have := HGG.out.w; omega
  have CB : Aside0 (∀ (t : Int) (W : World), Below w5.heap.size w5 W → Calls Tryd.prog 13 #[.agg #[.int .i64 G.p, .int .i64 G.f, .slice X2 G.ws.length Xc2, .slice X3 G.ks.length Xc3, .slice X4 G.ac.length Xc4], .int .i64 owner, .int .i64 t] W fun e w' => e = .returned (.int .i64 (beforeN G owner t)) ∧ Below W.heap.size W w') := ⟨fun t W hb => before_any (HX.out.below hb) (HG5.out.below hb) k1 k2 k3 owner t⟩
  have CW : Aside0 (∀ (t : Int) (W : World), Below w5.heap.size w5 W → Calls Tryd.prog 14 #[.agg #[.int .i64 G.p, .int .i64 G.f, .slice X2 G.ws.length Xc2, .slice X3 G.ks.length Xc3, .slice X4 G.ac.length Xc4], .int .i64 t] W fun e w' => e = .returned (.tuple #[.int .i64 ((whoN G t).getD 0), .bool (whoN G t).isSome]) ∧ Below W.heap.size W w') := ⟨fun t W hb => whose_any (HX.out.below hb) (HG5.out.below hb) k1 k2 k3 t⟩
  have CN : Aside0 (∀ (t : Int) (W : World), Below w5.heap.size w5 W → Calls Tryd.prog 15 #[.agg #[.int .i64 G.p, .int .i64 G.f, .slice X2 G.ws.length Xc2, .slice X3 G.ks.length Xc3, .slice X4 G.ac.length Xc4], .int .i64 owner, .int .i64 t] W fun e w' => e = .returned (.int .i64 (nthN G owner t)) ∧ Below W.heap.size W w') := ⟨fun t W hb => nth_any (HX.out.below hb) (HG5.out.below hb) k1 k2 k3 owner t⟩
  have HST := Aside0.mk (fun t => good_step HGG.out (t := t) (o := owner))
  have HAT := Aside0.mk (fun t => good_nth_at HGG.out (t := t) (o := owner))
  have HZ := Aside0.mk (good_zero HGG.out owner)
  clear k1 k2 k3 HX HG5 HGG
  have g0 := (blk_cell H6.1 0).trans (show _ = some (.int .i64 G.p) from rfl)
  have g1 := (blk_cell H6.1 1).trans (show _ = some (.int .i64 G.f) from rfl)
  have g2 := (blk_cell H6.1 2).trans (show _ = some (.slice X2 G.ws.length Xc2) from rfl)
  have g3 := (blk_cell H6.1 3).trans (show _ = some (.slice X3 G.ks.length Xc3) from rfl)
  have g4 := (blk_cell H6.1 4).trans (show _ = some (.slice X4 G.ac.length Xc4) from rfl)
  have H6A := Aside0.mk H6
  clear H6
  go_upto_region 5 with (first | fail)
  rw [hm]
  clear hm g0 g1 g2 g3 g4
  go_wp2
  go_loopw [8, 9] (fun v8 v9 wr => ∃ (t n : Int), v9 = .int .i64 t ∧ 0 ≤ t ∧ t ≤ m ∧ v8 = .int .i64 n ∧ (0 ≤ n ∧ n ≤ t) ∧ Aside0 (beforeN G owner t = n) ∧ Aside0 (wr.heap[w5.heap.size]? = some (.cells #[.int .i64 G.p, .int .i64 G.f, .slice X2 G.ws.length Xc2, .slice X3 G.ks.length Xc3, .slice X4 G.ac.length Xc4] 26 (0, 0)) ∧ Below w5.heap.size w5 wr)) (fun _ v9 _ => (m - intOf v9).toNat)
  case atStart => exact ⟨0, 0, rfl, by omega, by omega, rfl, by omega, HZ, H6A⟩
  case round =>
    clear H6A HZ
    rename_i gv8 gv9
    obtain ⟨t, n, rfl, ht0, ht1, rfl, hn, HN, HI⟩ := hrel
    have g0 := (blk_cell HI.out.1 0).trans (show _ = some (.int .i64 G.p) from rfl)
    have g1 := (blk_cell HI.out.1 1).trans (show _ = some (.int .i64 G.f) from rfl)
    have g2 := (blk_cell HI.out.1 2).trans (show _ = some (.slice X2 G.ws.length Xc2) from rfl)
    have g3 := (blk_cell HI.out.1 3).trans (show _ = some (.slice X3 G.ks.length Xc3) from rfl)
    have g4 := (blk_cell HI.out.1 4).trans (show _ = some (.slice X4 G.ac.length Xc4) from rfl)
    by_cases hlt : t < m
    · have d1 : decide (t < m) = true := decide_eq_true hlt
      have hst := HST.out t ht0 (by omega)
      rw [HN.out] at hst
      have CBt := Aside0.mk (CB.out t)
      rw [HN.out] at CBt
      have CWt := Aside0.mk (CW.out t)
      have ht2 : wrap64 (t + 1) = t + 1 := w64_in (by omega) (by omega)
      have hn2 : wrap64 (n + 1) = n + 1 := w64_in (by omega) (by omega)
      by_cases hw : whoN G t = some owner
      · have CNt := Aside0.mk (CN.out n)
        have hat := HAT.out t ht0 (by omega) hw
        rw [HN.out] at hat
        rw [hat] at CNt
        clear hat
        rw [if_pos hw] at hst
        rw [hw] at CWt
        have hop : (some owner).getD 0 = owner := rfl
        have hos : (some owner).isSome = true := rfl
        rw [hop, hos] at CWt
        clear hop hos hw
        have HE := Aside0.mk hst
        clear hst
        go_upto_region 11 with (first | (go_at_call 13; (with_reducible refine (CBt.out _ HI.out.2).mono ?_); rintro e w8 ⟨rfl, hb⟩; have H8 := Aside0.mk (And.intro (blk_below HI.out.1 hb) (below_step HI.out.2 hb)); clear hb g0 g1 g2 g3 g4; have g0 := (blk_cell H8.out.1 0).trans (show _ = some (.int .i64 G.p) from rfl); have g1 := (blk_cell H8.out.1 1).trans (show _ = some (.int .i64 G.f) from rfl); have g2 := (blk_cell H8.out.1 2).trans (show _ = some (.slice X2 G.ws.length Xc2) from rfl); have g3 := (blk_cell H8.out.1 3).trans (show _ = some (.slice X3 G.ks.length Xc3) from rfl); have g4 := (blk_cell H8.out.1 4).trans (show _ = some (.slice X4 G.ac.length Xc4) from rfl)))
        clear HI
        go_upto_region 12 with (first | (go_at_call 14; (with_reducible refine (CWt.out _ H8.out.2).mono ?_); rintro e w8 ⟨rfl, hb⟩; have H9 := Aside0.mk (And.intro (blk_below H8.out.1 hb) (below_step H8.out.2 hb)); clear hb g0 g1 g2 g3 g4; have g0 := (blk_cell H9.out.1 0).trans (show _ = some (.int .i64 G.p) from rfl); have g1 := (blk_cell H9.out.1 1).trans (show _ = some (.int .i64 G.f) from rfl); have g2 := (blk_cell H9.out.1 2).trans (show _ = some (.slice X2 G.ws.length Xc2) from rfl); have g3 := (blk_cell H9.out.1 3).trans (show _ = some (.slice X3 G.ks.length Xc3) from rfl); have g4 := (blk_cell H9.out.1 4).trans (show _ = some (.slice X4 G.ac.length Xc4) from rfl)))
        clear H8
        go_wp2_with (first | (go_at_call 15; (with_reducible refine (CNt.out _ H9.out.2).mono ?_); rintro e w8 ⟨rfl, hb⟩; have H10 := Aside0.mk (And.intro (blk_below H9.out.1 hb) (below_step H9.out.2 hb)); clear hb g0 g1 g2 g3 g4))
        go_roundw
        case rel => exact ⟨t + 1, n + 1, by first | rfl | rw [ht2] | go_num, by omega, by omega, by first | rfl | rw [hn2], by omega, HE, H10⟩
        case measure => simp [intOf]; omega
      · rw [if_neg hw, Int.add_zero] at hst
        have HE := Aside0.mk hst
        clear hst
        have hwo : whoN G t = none ∨ ∃ r, whoN G t = some r ∧ decide (r = owner) = false ∧ (r == owner) = false := by
          cases h : whoN G t with
          | none => exact Or.inl rfl
          | some r =>
            have hr : r ≠ owner := fun e => hw (by rw [h, e])
            exact Or.inr ⟨r, rfl, decide_eq_false hr, beq_eq_false_iff_ne.mpr hr⟩
        clear hw
        rcases hwo with hw | ⟨r, hw, hr1, hr2⟩
        · rw [hw] at CWt
          have hos : (none : Option Int).isSome = false := rfl
          rw [hos] at CWt
          clear hos hw
          generalize (none : Option Int).getD 0 = a at CWt
          go_upto_region 11 with (first | (go_at_call 13; (with_reducible refine (CBt.out _ HI.out.2).mono ?_); rintro e w8 ⟨rfl, hb⟩; have H8 := Aside0.mk (And.intro (blk_below HI.out.1 hb) (below_step HI.out.2 hb)); clear hb g0 g1 g2 g3 g4; have g0 := (blk_cell H8.out.1 0).trans (show _ = some (.int .i64 G.p) from rfl); have g1 := (blk_cell H8.out.1 1).trans (show _ = some (.int .i64 G.f) from rfl); have g2 := (blk_cell H8.out.1 2).trans (show _ = some (.slice X2 G.ws.length Xc2) from rfl); have g3 := (blk_cell H8.out.1 3).trans (show _ = some (.slice X3 G.ks.length Xc3) from rfl); have g4 := (blk_cell H8.out.1 4).trans (show _ = some (.slice X4 G.ac.length Xc4) from rfl)))
          clear HI
          go_wp2_with (first | (go_at_call 14; (with_reducible refine (CWt.out _ H8.out.2).mono ?_); rintro e w8 ⟨rfl, hb⟩; have H9 := Aside0.mk (And.intro (blk_below H8.out.1 hb) (below_step H8.out.2 hb)); clear hb g0 g1 g2 g3 g4))
          go_roundw
          case rel => exact ⟨t + 1, n, by first | rfl | rw [ht2] | go_num, by omega, by omega, rfl, by omega, HE, H9⟩
          case measure => simp [intOf]; omega
        · rw [hw] at CWt
          have hop : (some r).getD 0 = r := rfl
          have hos : (some r).isSome = true := rfl
          rw [hop, hos] at CWt
          clear hop hos hw
          go_upto_region 11 with (first | (go_at_call 13; (with_reducible refine (CBt.out _ HI.out.2).mono ?_); rintro e w8 ⟨rfl, hb⟩; have H8 := Aside0.mk (And.intro (blk_below HI.out.1 hb) (below_step HI.out.2 hb)); clear hb g0 g1 g2 g3 g4; have g0 := (blk_cell H8.out.1 0).trans (show _ = some (.int .i64 G.p) from rfl); have g1 := (blk_cell H8.out.1 1).trans (show _ = some (.int .i64 G.f) from rfl); have g2 := (blk_cell H8.out.1 2).trans (show _ = some (.slice X2 G.ws.length Xc2) from rfl); have g3 := (blk_cell H8.out.1 3).trans (show _ = some (.slice X3 G.ks.length Xc3) from rfl); have g4 := (blk_cell H8.out.1 4).trans (show _ = some (.slice X4 G.ac.length Xc4) from rfl)))
          clear HI
          go_wp2_with (first | (go_at_call 14; (with_reducible refine (CWt.out _ H8.out.2).mono ?_); rintro e w8 ⟨rfl, hb⟩; have H9 := Aside0.mk (And.intro (blk_below H8.out.1 hb) (below_step H8.out.2 hb)); clear hb g0 g1 g2 g3 g4))
          go_roundw
          case rel => exact ⟨t + 1, n, by first | rfl | rw [ht2] | go_num, by omega, by omega, rfl, by omega, HE, H9⟩
          case measure => simp [intOf]; omega
    · have d1 : decide (t < m) = false := decide_eq_false hlt
      obtain rfl : t = m := by omega
      have CBm := Aside0.mk (CB.out t)
      rw [HN.out] at CBm
      go_wp2_with (first | (go_at_call 13; (with_reducible refine (CBm.out _ HI.out.2).mono ?_); rintro e w8 ⟨rfl, hb⟩; have H8 := Aside0.mk (And.intro (blk_below HI.out.1 hb) (below_step HI.out.2 hb)); clear hb g0 g1 g2 g3 g4))
      go_ret
      exact ⟨rfl, below_step B5.out H8.out.2⟩
end Go.Proofs.YtmmkbgilcggkkaaDoor.Wn
