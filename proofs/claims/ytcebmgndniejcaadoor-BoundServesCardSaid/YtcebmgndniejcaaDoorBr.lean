/- Layer 21 (bound): what the document's answers come to (empennageref21). -/
import Derived.Test.YtcebmgndniejcaaDoorBw
import Derived.Test.YtcebmgndniejcaaDoorWrM
set_option linter.unusedVariables false
set_option linter.unusedSimpArgs false
namespace Go.Proofs.YtcebmgndniejcaaDoor.Wn
open Go Go.RowKit Go.Shelf Go.Proofs.YtcebmgndniejcaaDoorW.PrintWords Go.Proofs.YtcebmgndniejcaaDoorW.PrintLast Go.Proofs.YtcebmgndniejcaaDoorW.PrintMore Go.Proofs.YtcebmgndniejcaaDoor.Cz Go.Proofs.YtcebmgndniejcaaDoor.PBoundWaits Go.Proofs.YtcebmgndniejcaaDoor.Cf Go.Proofs.YtcebmgndniejcaaDoor.Sat
attribute [local go_sem] max2_int min2_int max_two min_two max_three min_three max_four min_four Tryd.underlying26 Tryd.underlying41 Tryd.underlying43
theorem idx_snoc (x a : Int) : ∀ (l : List Int) (i : Int), 0 ≤ i → idxF x (l ++ [a]) i = if 0 ≤ idxF x l i then idxF x l i else if x = a then i + l.length else -1
  | [], i, h => by
    show (if x = a then i else -1) = if (0 : Int) ≤ -1 then -1 else if x = a then i + ((0 : Nat) : Int) else -1
    rw [if_neg (show ¬ (0 : Int) ≤ -1 by decide)]
    split <;> omega
  | b :: t, i, h => by
    show (if x = b then i else idxF x (t ++ [a]) (i + 1)) = if 0 ≤ (if x = b then i else idxF x t (i + 1)) then (if x = b then i else idxF x t (i + 1)) else if x = a then i + ((t.length + 1 : Nat) : Int) else -1
    by_cases hb : x = b
    · rw [if_pos hb, if_pos hb, if_pos h]
    · rw [if_neg hb, if_neg hb, idx_snoc x a t (i + 1) (by omega)]
      split
      · rfl
      · split <;> omega
/-- One more queuing channel. -/
theorem idx_step {ks : List S43} {j : Nat} (h : j < ks.length) (hk : ks[j].f0 = 1) (x : Int) : idxN x (qu ks (j + 1)) = if (j : Int) = x then ((qu ks j).length : Int) else idxN x (qu ks j) := by
  rw [qu_yes h hk]
  unfold idxN
  rw [idx_snoc x j (qu ks j) 0 (Int.le_refl _)]
  have hb := idxF_bd x (qu ks j) 0 (Int.le_refl _)
  by_cases hx : (j : Int) = x
  · rw [if_pos hx, if_neg (fun hi => by
      have := qu_lt ks j x (idxF_mem x (qu ks j) 0 (Int.le_refl _) hi)
      omega), if_pos hx.symm]
    omega
  · rw [if_neg hx]
    split
    · rfl
    · rw [if_neg (fun e => hx e.symm)]
      omega
set_option maxHeartbeats 16000000 in
set_option maxRecDepth 100000 in
theorem place_any {C : Cfg} {A2 A3 A4 : Option Addr} {c2 c3 c4 : Nat} {w : World} (hX : CX w C A2 c2 A3 c3 A4 c4) (lk : C.ks.length ≤ 1000) (la : C.ac.length ≤ 1000) (lw : C.ws.length ≤ 1000) (ch : Int) :
    Calls Tryd.prog 30 #[.agg #[.int .i64 C.p, .int .i64 C.f, .slice A2 C.ws.length c2, .slice A3 C.ks.length c3, .slice A4 C.ac.length c4], .int .i64 ch] w fun e w' => e = .returned (.tuple #[.int .i64 (idxN ch (quN C)), .int .i64 ((quN C).length : Int)]) ∧ Below w.heap.size w w' := by
  have CM : Aside0 (∀ W : World, Below w.heap.size w W → Calls Tryd.prog 36 #[.agg #[.int .i64 C.p, .int .i64 C.f, .slice A2 C.ws.length c2, .slice A3 C.ks.length c3, .slice A4 C.ac.length c4]] W fun e w' => e = .returned (.bool (okB C)) ∧ Below W.heap.size W w') := ⟨fun W hb => rmay_any (hX.below hb) lw lk la⟩
  have HX := Aside0.mk hX.k
  obtain ⟨ok, hok⟩ : ∃ ok, okB C = ok := ⟨_, rfl⟩
  rw [hok] at CM
  clear hX la lw
  have H1 : Aside0 ((w.alloc (.cells #[.int .i64 C.p, .int .i64 C.f, .slice A2 C.ws.length c2, .slice A3 C.ks.length c3, .slice A4 C.ac.length c4] 26)).heap[w.heap.size]? = some (.cells #[.int .i64 C.p, .int .i64 C.f, .slice A2 C.ws.length c2, .slice A3 C.ks.length c3, .slice A4 C.ac.length c4] 26 (0, 0)) ∧ Below w.heap.size w (w.alloc (.cells #[.int .i64 C.p, .int .i64 C.f, .slice A2 C.ws.length c2, .slice A3 C.ks.length c3, .slice A4 C.ac.length c4] 26))) := ⟨⟨blk_new _ _, below_alloc (Below.refl _ _) _⟩⟩
  have b0 := (blk_cell H1.out.1 0).trans (show _ = some (.int .i64 C.p) from rfl)
  have b1 := (blk_cell H1.out.1 1).trans (show _ = some (.int .i64 C.f) from rfl)
  have b2 := (blk_cell H1.out.1 2).trans (show _ = some (.slice A2 C.ws.length c2) from rfl)
  have b3 := (blk_cell H1.out.1 3).trans (show _ = some (.slice A3 C.ks.length c3) from rfl)
  have b4 := (blk_cell H1.out.1 4).trans (show _ = some (.slice A4 C.ac.length c4) from rfl)
  cases ok
  · have hqn : quN C = [] := by unfold quN; rw [if_neg (by rw [hok]; decide)]
    rw [hqn]
    clear hqn hok
    go_enter Tryd.func30, Tryd.ntmps30
    go_wp2_with (first | (go_at_call 36; (with_reducible refine (CM.out _ H1.out.2).mono ?_); rintro e w2 ⟨rfl, hb⟩; have H2 := Aside0.mk (And.intro (blk_below H1.out.1 hb) (below_step H1.out.2 hb)); clear hb b0 b1 b2 b3 b4))
    clear H1 CM
    go_loopw [7, 8, 9] (fun v7 v8 v9 wr => v7 = .int .i64 (-1) ∧ v8 = .int .i64 0 ∧ v9 = .int .i64 0 ∧ Aside0 (wr.heap[w.heap.size]? = some (.cells #[.int .i64 C.p, .int .i64 C.f, .slice A2 C.ws.length c2, .slice A3 C.ks.length c3, .slice A4 C.ac.length c4] 26 (0, 0)) ∧ Below w.heap.size w wr)) (fun _ _ _ _ => 0)
    case atStart => exact ⟨rfl, rfl, rfl, H2⟩
    case round =>
      clear H2
      rename_i gv7 gv8 gv9
      obtain ⟨rfl, rfl, rfl, HI⟩ := hrel
      have b0 := (blk_cell HI.out.1 0).trans (show _ = some (.int .i64 C.p) from rfl)
      have b1 := (blk_cell HI.out.1 1).trans (show _ = some (.int .i64 C.f) from rfl)
      have b2 := (blk_cell HI.out.1 2).trans (show _ = some (.slice A2 C.ws.length c2) from rfl)
      have b3 := (blk_cell HI.out.1 3).trans (show _ = some (.slice A3 C.ks.length c3) from rfl)
      have b4 := (blk_cell HI.out.1 4).trans (show _ = some (.slice A4 C.ac.length c4) from rfl)
      by_cases hl : 0 < C.ks.length
      · have d1 : decide ((0 : Int) < (C.ks.length : Int)) = true := decide_eq_true (by omega)
        have d1n : decide (0 < C.ks.length) = true := decide_eq_true hl
        go_wp2
        refine bodyPost_ret (results_tmp2 rfl _ _ _) rfl ?_
        exact ⟨rfl, HI.out.2⟩
      · have d1 : decide ((0 : Int) < (C.ks.length : Int)) = false := decide_eq_false (by omega)
        have d1n : decide (0 < C.ks.length) = false := decide_eq_false hl
        go_wp2
        refine bodyPost_ret (results_tmp2 rfl _ _ _) rfl ?_
        exact ⟨rfl, HI.out.2⟩
  · have hqn : quN C = qu C.ks C.ks.length := by unfold quN; rw [if_pos hok]; rfl
    rw [hqn]
    clear hqn hok
    go_enter Tryd.func30, Tryd.ntmps30
    go_wp2_with (first | (go_at_call 36; (with_reducible refine (CM.out _ H1.out.2).mono ?_); rintro e w2 ⟨rfl, hb⟩; have H2 := Aside0.mk (And.intro (blk_below H1.out.1 hb) (below_step H1.out.2 hb)); clear hb b0 b1 b2 b3 b4))
    clear H1 CM
    go_loopw [7, 8, 9] (fun v7 v8 v9 wr => ∃ j : Nat, v9 = .int .i64 j ∧ j ≤ C.ks.length ∧ v8 = .int .i64 ((qu C.ks j).length : Int) ∧ v7 = .int .i64 (idxN ch (qu C.ks j)) ∧ Aside0 (wr.heap[w.heap.size]? = some (.cells #[.int .i64 C.p, .int .i64 C.f, .slice A2 C.ws.length c2, .slice A3 C.ks.length c3, .slice A4 C.ac.length c4] 26 (0, 0)) ∧ Below w.heap.size w wr)) (fun _ _ v9 _ => C.ks.length - (intOf v9).toNat)
    case atStart => exact ⟨0, rfl, by omega, rfl, rfl, H2⟩
    case round =>
    clear H2
    rename_i gv7 gv8 gv9
    obtain ⟨j, rfl, hj, rfl, rfl, HI⟩ := hrel
    have b0 := (blk_cell HI.out.1 0).trans (show _ = some (.int .i64 C.p) from rfl)
    have b1 := (blk_cell HI.out.1 1).trans (show _ = some (.int .i64 C.f) from rfl)
    have b2 := (blk_cell HI.out.1 2).trans (show _ = some (.slice A2 C.ws.length c2) from rfl)
    have b3 := (blk_cell HI.out.1 3).trans (show _ = some (.slice A3 C.ks.length c3) from rfl)
    have b4 := (blk_cell HI.out.1 4).trans (show _ = some (.slice A4 C.ac.length c4) from rfl)
    by_cases hlt : j < C.ks.length
    · have d1 : decide ((j : Int) < (C.ks.length : Int)) = true := decide_eq_true (by omega)
      have d1n : decide (j < C.ks.length) = true := decide_eq_true hlt
      have hcs := at_T43 (Kd.C_below HX.out HI.out.2) (j : Int) (by omega) (by omega)
      rw [show rd_T43 C.ks (j : Int) = C.ks[j] by simp [rd_T43, hlt], Int.toNat_natCast] at hcs
      have HY := Aside0.mk (fun h => qu_yes (ks := C.ks) hlt h)
      have HN := Aside0.mk (fun h => qu_no (ks := C.ks) hlt h)
      have HS := Aside0.mk (fun h => idx_step (ks := C.ks) hlt h ch)
      have hjl := qu_len C.ks j
      generalize C.ks[j] = x at hcs HY HN HS
      obtain ⟨x0, x1, x2, x3, x4, x5, x6, x7, x8, x9, x10⟩ := x
      obtain ⟨ad, rfl, e0, e1, e2, e3, e4, e5, e6, e7, e8, e9, e10⟩ := hcs
      simp only [] at e0 HY HN HS
      clear e1 e2 e3 e4 e5 e6 e7 e8 e9 e10
      have hj0 : 0 ≤ (j : Int) := by omega
      have hj1 : (j : Int) < C.ks.length := by omega
      by_cases hk : x0 = 1
      · have q1 : decide (x0 = 1) = true := decide_eq_true hk
        have q2 : (x0 == 1) = true := beq_iff_eq.mpr hk
        have HYY := Aside0.mk (HY.out hk)
        have HSS := Aside0.mk (HS.out hk)
        clear hk HY HN HS
        obtain ⟨nn, hnn⟩ : ∃ nn, (qu C.ks j).length = nn := ⟨_, rfl⟩
        have hlen : Aside0 ((qu C.ks (j + 1)).length = nn + 1) := ⟨by rw [HYY.out, List.length_append, hnn]; rfl⟩
        rw [hnn] at hjl HSS ⊢
        clear hnn HYY
        generalize idxN ch (qu C.ks j) = ix at HSS ⊢
        have hn1 : wrap64 ((nn : Int) + 1) = (nn : Int) + 1 := w64_in (by omega) (by omega)
        by_cases hc : (j : Int) = ch
        · have g1 : decide ((j : Int) = ch) = true := decide_eq_true hc
          have g2 : ((j : Int) == ch) = true := beq_iff_eq.mpr hc
          have HE := Aside0.mk (HSS.out.trans (if_pos hc))
          clear hc
          go_wp2
          go_roundw
          case rel => exact ⟨j + 1, by go_num, by omega, by rw [hlen.out]; first | rfl | go_num | (rw [hn1]; rfl), by rw [HE.out], HI⟩
          case measure => simp [intOf]; omega
        · have g1 : decide ((j : Int) = ch) = false := decide_eq_false hc
          have g2 : ((j : Int) == ch) = false := beq_eq_false_iff_ne.mpr hc
          have HE := Aside0.mk (HSS.out.trans (if_neg hc))
          clear hc
          go_wp2
          go_roundw
          case rel => exact ⟨j + 1, by go_num, by omega, by rw [hlen.out]; first | rfl | go_num | (rw [hn1]; rfl), by rw [HE.out], HI⟩
          case measure => simp [intOf]; omega
      · have q1 : decide (x0 = 1) = false := decide_eq_false hk
        have q2 : (x0 == 1) = false := beq_eq_false_iff_ne.mpr hk
        have HNN := Aside0.mk (HN.out hk)
        clear hk
        go_wp2
        go_roundw
        case rel => exact ⟨j + 1, by go_num, by omega, by rw [HNN.out], by rw [HNN.out], HI⟩
        case measure => simp [intOf]; omega
    · have d1 : decide ((j : Int) < (C.ks.length : Int)) = false := decide_eq_false (by omega)
      have d1n : decide (j < C.ks.length) = false := decide_eq_false hlt
      obtain rfl : j = C.ks.length := by omega
      go_wp2
      refine bodyPost_ret (results_tmp2 rfl _ _ _) rfl ?_
      exact ⟨rfl, HI.out.2⟩
set_option maxHeartbeats 16000000 in
set_option maxRecDepth 100000 in
theorem rserve_any {C : Cfg} {A2 A3 A4 : Option Addr} {c2 c3 c4 : Nat} {w : World} (hX : CX w C A2 c2 A3 c3 A4 c4) (lk : C.ks.length ≤ 1000) (la : C.ac.length ≤ 1000) (lw : C.ws.length ≤ 1000) (ch now n : Int) :
    Calls Tryd.prog 12 #[.agg #[.int .i64 C.p, .int .i64 C.f, .slice A2 C.ws.length c2, .slice A3 C.ks.length c3, .slice A4 C.ac.length c4], .int .i64 ch, .int .i64 now, .int .i64 n] w fun e w' => e = .returned (.int .i64 (serveN C ch now n)) ∧ Below w.heap.size w w' := by
  have CP : Aside0 (∀ W : World, Below w.heap.size w W → Calls Tryd.prog 30 #[.agg #[.int .i64 C.p, .int .i64 C.f, .slice A2 C.ws.length c2, .slice A3 C.ks.length c3, .slice A4 C.ac.length c4], .int .i64 ch] W fun e w' => e = .returned (.tuple #[.int .i64 (idxN ch (quN C)), .int .i64 ((quN C).length : Int)]) ∧ Below W.heap.size W w') := ⟨fun W hb => place_any (hX.below hb) lk la lw ch⟩
  have CC : Aside0 (∀ W : World, Below w.heap.size w W → Calls Tryd.prog 31 #[.agg #[.int .i64 C.p, .int .i64 C.f, .slice A2 C.ws.length c2, .slice A3 C.ks.length c3, .slice A4 C.ac.length c4], .int .i64 (-1)] W fun e w' => e = .returned (.int .i64 (countN C (-1))) ∧ Below W.heap.size W w') := ⟨fun W hb => rcount_any (hX.below hb) lk la lw (-1)⟩
  have CB : Aside0 (∀ W : World, Below w.heap.size w W → Calls Tryd.prog 32 #[.agg #[.int .i64 C.p, .int .i64 C.f, .slice A2 C.ws.length c2, .slice A3 C.ks.length c3, .slice A4 C.ac.length c4], .int .i64 (-1), .int .i64 now] W fun e w' => e = .returned (.int .i64 (beforeN C (-1) now)) ∧ Below W.heap.size W w') := ⟨fun W hb => rbefore_any (hX.below hb) lk la lw (-1) now⟩
  have CN : Aside0 (∀ (m : Int) (W : World), Below w.heap.size w W → Calls Tryd.prog 33 #[.agg #[.int .i64 C.p, .int .i64 C.f, .slice A2 C.ws.length c2, .slice A3 C.ks.length c3, .slice A4 C.ac.length c4], .int .i64 (-1), .int .i64 m] W fun e w' => e = .returned (.int .i64 (nthN C (-1) m)) ∧ Below W.heap.size W w') := ⟨fun m W hb => rnth_any (hX.below hb) lk la lw (-1) m⟩
  have HV : Aside0 (serveN C ch now n = if idxN ch (quN C) < 0 then -1 else if countN C (-1) = 0 then -1 else nthN C (-1) (srvAt (quN C).length (idxN ch (quN C)) (beforeN C (-1) now) n)) := ⟨rfl⟩
  have hix := idxN_bd ch (quN C)
  have hql := quN_len C
  have hbd := before_bd C (-1) now
  generalize serveN C ch now n = res at HV ⊢
  generalize beforeN C (-1) now = first at CB HV hbd
  generalize countN C (-1) = K at CC HV
  generalize idxN ch (quN C) = at_ at HV hix CP
  have hL : (quN C).length ≤ 1000 := by omega
  obtain ⟨L, hLL⟩ : ∃ L, (quN C).length = L := ⟨_, rfl⟩
  rw [hLL] at CP hL hix HV
  clear hX lk la lw hql hLL
  have H1 : Aside0 ((w.alloc (.cells #[.int .i64 C.p, .int .i64 C.f, .slice A2 C.ws.length c2, .slice A3 C.ks.length c3, .slice A4 C.ac.length c4] 26)).heap[w.heap.size]? = some (.cells #[.int .i64 C.p, .int .i64 C.f, .slice A2 C.ws.length c2, .slice A3 C.ks.length c3, .slice A4 C.ac.length c4] 26 (0, 0)) ∧ Below w.heap.size w (w.alloc (.cells #[.int .i64 C.p, .int .i64 C.f, .slice A2 C.ws.length c2, .slice A3 C.ks.length c3, .slice A4 C.ac.length c4] 26))) := ⟨⟨blk_new _ _, below_alloc (Below.refl _ _) _⟩⟩
  have b0 := (blk_cell H1.out.1 0).trans (show _ = some (.int .i64 C.p) from rfl)
  have b1 := (blk_cell H1.out.1 1).trans (show _ = some (.int .i64 C.f) from rfl)
  have b2 := (blk_cell H1.out.1 2).trans (show _ = some (.slice A2 C.ws.length c2) from rfl)
  have b3 := (blk_cell H1.out.1 3).trans (show _ = some (.slice A3 C.ks.length c3) from rfl)
  have b4 := (blk_cell H1.out.1 4).trans (show _ = some (.slice A4 C.ac.length c4) from rfl)
  by_cases ha : at_ < 0
  · have d1 : decide (at_ < 0) = true := decide_eq_true ha
    have HR : Aside0 (res = -1) := ⟨by rw [HV.out, if_pos ha]⟩
    clear HV ha hbd
    go_enter Tryd.func12, Tryd.ntmps12
    go_wp2_with (first | (go_at_call 30; (with_reducible refine (CP.out _ H1.out.2).mono ?_); rintro e w2 ⟨rfl, hb⟩; have H2 := Aside0.mk (And.intro (blk_below H1.out.1 hb) (below_step H1.out.2 hb)); clear hb b0 b1 b2 b3 b4; have b0 := (blk_cell H2.out.1 0).trans (show _ = some (.int .i64 C.p) from rfl); have b1 := (blk_cell H2.out.1 1).trans (show _ = some (.int .i64 C.f) from rfl); have b2 := (blk_cell H2.out.1 2).trans (show _ = some (.slice A2 C.ws.length c2) from rfl); have b3 := (blk_cell H2.out.1 3).trans (show _ = some (.slice A3 C.ks.length c3) from rfl); have b4 := (blk_cell H2.out.1 4).trans (show _ = some (.slice A4 C.ac.length c4) from rfl)))
    go_ret
    exact ⟨by rw [HR.out]; rfl, H2.out.2⟩
  · have d1 : decide (at_ < 0) = false := decide_eq_false ha
    by_cases hK : K = 0
    · have d2 : decide (K = 0) = true := decide_eq_true hK
      have d3 : (K == 0) = true := beq_iff_eq.mpr hK
      have HR : Aside0 (res = -1) := ⟨by rw [HV.out, if_neg ha, if_pos hK]⟩
      clear HV ha hbd hK
      go_enter Tryd.func12, Tryd.ntmps12
      go_wp2_with (first | (go_at_call 30; (with_reducible refine (CP.out _ H1.out.2).mono ?_); rintro e w2 ⟨rfl, hb⟩; have H2 := Aside0.mk (And.intro (blk_below H1.out.1 hb) (below_step H1.out.2 hb)); clear hb b0 b1 b2 b3 b4; have b0 := (blk_cell H2.out.1 0).trans (show _ = some (.int .i64 C.p) from rfl); have b1 := (blk_cell H2.out.1 1).trans (show _ = some (.int .i64 C.f) from rfl); have b2 := (blk_cell H2.out.1 2).trans (show _ = some (.slice A2 C.ws.length c2) from rfl); have b3 := (blk_cell H2.out.1 3).trans (show _ = some (.slice A3 C.ks.length c3) from rfl); have b4 := (blk_cell H2.out.1 4).trans (show _ = some (.slice A4 C.ac.length c4) from rfl)) | (go_at_call 31; (with_reducible refine (CC.out _ H2.out.2).mono ?_); rintro e w3 ⟨rfl, hb⟩; have H3 := Aside0.mk (And.intro (blk_below H2.out.1 hb) (below_step H2.out.2 hb)); clear hb b0 b1 b2 b3 b4; have b0 := (blk_cell H3.out.1 0).trans (show _ = some (.int .i64 C.p) from rfl); have b1 := (blk_cell H3.out.1 1).trans (show _ = some (.int .i64 C.f) from rfl); have b2 := (blk_cell H3.out.1 2).trans (show _ = some (.slice A2 C.ws.length c2) from rfl); have b3 := (blk_cell H3.out.1 3).trans (show _ = some (.slice A3 C.ks.length c3) from rfl); have b4 := (blk_cell H3.out.1 4).trans (show _ = some (.slice A4 C.ac.length c4) from rfl)))
      go_ret
      exact ⟨by rw [HR.out]; rfl, H3.out.2⟩
    · have d2 : decide (K = 0) = false := decide_eq_false hK
      have d3 : (K == 0) = false := beq_eq_false_iff_ne.mpr hK
      have HR : Aside0 (res = nthN C (-1) (tadd first (Int.tmod (at_ - Int.tmod first (L : Int) + (L : Int)) (L : Int) + (L : Int) * (clip n - 1)))) := ⟨by rw [HV.out, if_neg ha, if_neg hK]; rfl⟩
      clear HV
      have h0L : 0 < L := by omega
      have hat0 : 0 ≤ at_ := by omega
      have hat1 : at_ < L := by omega
      have hcl := clip_bd n
      obtain ⟨m1, hm1⟩ : ∃ m, (if n < 1 then 1 else n) = m := ⟨_, rfl⟩
      have hm2 : (if 100 < m1 then 100 else m1) = clip n := by rw [← hm1]; rfl
      generalize clip n = m2 at hm2 hcl HR
      obtain ⟨hc1, hc2⟩ := hcl
      obtain ⟨p, hp⟩ : ∃ p, (L : Int) * (m2 - 1) = p := ⟨_, rfl⟩
      have hp0 : 0 ≤ p := by rw [← hp]; exact Int.mul_nonneg (by omega) (by omega)
      have hp1 : p ≤ 1000 * 1000 := by rw [← hp]; exact Int.mul_le_mul (by omega) (by omega) (by omega) (by omega)
      have r0 : 0 ≤ Int.tmod first (L : Int) := Int.tmod_nonneg _ hbd.1
      have r1 : Int.tmod first (L : Int) < L := Int.tmod_lt_of_pos _ (by omega)
      generalize hr : Int.tmod first (L : Int) = r at r0 r1 HR
      have s0 : 0 ≤ Int.tmod (at_ - r + L) (L : Int) := Int.tmod_nonneg _ (by omega)
      have s1 : Int.tmod (at_ - r + L) (L : Int) < L := Int.tmod_lt_of_pos _ (by omega)
      have hse : Int.tmod (at_ - r + L) (L : Int) = if r ≤ at_ then at_ - r else at_ - r + L := by
        rw [Int.tmod_eq_emod_of_nonneg (by omega)]
        split
        · rw [Int.add_emod_right]; exact Int.emod_eq_of_lt (by omega) (by omega)
        · exact Int.emod_eq_of_lt (by omega) (by omega)
      generalize Int.tmod (at_ - r + L) (L : Int) = s at s0 s1 HR hse
      rw [hp] at HR
      have HSK : Aside0 (∀ j : Int, 0 ≤ j → j ≤ s → (0 ≤ Int.tmod (r + j) (L : Int) ∧ Int.tmod (r + j) (L : Int) < L) ∧ (Int.tmod (r + j) (L : Int) = at_ ↔ j = s)) := ⟨fun j j0 j1 => by
        refine ⟨⟨Int.tmod_nonneg _ (by omega), Int.tmod_lt_of_pos _ (by omega)⟩, ?_⟩
        rw [Int.tmod_eq_emod_of_nonneg (by omega)]
        by_cases hlt : r + j < L
        · rw [Int.emod_eq_of_lt (by omega) hlt]
          split at hse <;> constructor <;> intro _ <;> omega
        · rw [emod_once (by omega) (by omega)]
          split at hse <;> constructor <;> intro _ <;> omega⟩
      clear hse
      have hnz : (L : Int) ≠ 0 := by omega
      have g1 : decide ((L : Int) = 0) = false := decide_eq_false hnz
      have g2 : ((L : Int) == 0) = false := beq_eq_false_iff_ne.mpr hnz
      have g3 : decide (L = 0) = false := decide_eq_false (by omega)
      have g4 : (L == 0) = false := beq_eq_false_iff_ne.mpr (by omega)
      have CNs := Aside0.mk (CN.out (tadd first (s + p)))
      have AX := Aside0.mk (fun W => radd_any first (s + p) W)
      generalize tadd first (s + p) = m at CNs AX HR
      generalize nthN C (-1) m = rr at CNs HR
      clear ha hK hix CN
      obtain ⟨hb0, hb1⟩ := hbd
      go_enter Tryd.func12, Tryd.ntmps12
      go_upto_region 6 with (first | (go_at_call 30; (with_reducible refine (CP.out _ H1.out.2).mono ?_); rintro e w2 ⟨rfl, hb⟩; have H2 := Aside0.mk (And.intro (blk_below H1.out.1 hb) (below_step H1.out.2 hb)); clear hb b0 b1 b2 b3 b4; have b0 := (blk_cell H2.out.1 0).trans (show _ = some (.int .i64 C.p) from rfl); have b1 := (blk_cell H2.out.1 1).trans (show _ = some (.int .i64 C.f) from rfl); have b2 := (blk_cell H2.out.1 2).trans (show _ = some (.slice A2 C.ws.length c2) from rfl); have b3 := (blk_cell H2.out.1 3).trans (show _ = some (.slice A3 C.ks.length c3) from rfl); have b4 := (blk_cell H2.out.1 4).trans (show _ = some (.slice A4 C.ac.length c4) from rfl)) | (go_at_call 31; (with_reducible refine (CC.out _ H2.out.2).mono ?_); rintro e w3 ⟨rfl, hb⟩; have H3 := Aside0.mk (And.intro (blk_below H2.out.1 hb) (below_step H2.out.2 hb)); clear hb b0 b1 b2 b3 b4; have b0 := (blk_cell H3.out.1 0).trans (show _ = some (.int .i64 C.p) from rfl); have b1 := (blk_cell H3.out.1 1).trans (show _ = some (.int .i64 C.f) from rfl); have b2 := (blk_cell H3.out.1 2).trans (show _ = some (.slice A2 C.ws.length c2) from rfl); have b3 := (blk_cell H3.out.1 3).trans (show _ = some (.slice A3 C.ks.length c3) from rfl); have b4 := (blk_cell H3.out.1 4).trans (show _ = some (.slice A4 C.ac.length c4) from rfl)) | (go_at_call 32; (with_reducible refine (CB.out _ H3.out.2).mono ?_); rintro e w4 ⟨rfl, hb⟩; have H4 := Aside0.mk (And.intro (blk_below H3.out.1 hb) (below_step H3.out.2 hb)); clear hb b0 b1 b2 b3 b4; have b0 := (blk_cell H4.out.1 0).trans (show _ = some (.int .i64 C.p) from rfl); have b1 := (blk_cell H4.out.1 1).trans (show _ = some (.int .i64 C.f) from rfl); have b2 := (blk_cell H4.out.1 2).trans (show _ = some (.slice A2 C.ws.length c2) from rfl); have b3 := (blk_cell H4.out.1 3).trans (show _ = some (.slice A3 C.ks.length c3) from rfl); have b4 := (blk_cell H4.out.1 4).trans (show _ = some (.slice A4 C.ac.length c4) from rfl)))
      clear hm1 hm2 CC CB CP d1 d2 d3 H1 H2 H3 b0 b1 b2 b3 b4
      go_wp2
      go_loopw [12] (fun v12 wr => ∃ j : Int, v12 = .int .i64 j ∧ 0 ≤ j ∧ j ≤ s ∧ Aside0 (wr.heap[w.heap.size]? = some (.cells #[.int .i64 C.p, .int .i64 C.f, .slice A2 C.ws.length c2, .slice A3 C.ks.length c3, .slice A4 C.ac.length c4] 26 (0, 0)) ∧ Below w.heap.size w wr)) (fun v12 _ => (s - intOf v12).toNat)
      case atStart => exact ⟨0, rfl, by omega, by omega, H4⟩
      case round =>
        clear H4
        rename_i gv12
        obtain ⟨j, rfl, hj0, hj1, HI⟩ := hrel
        obtain ⟨⟨y0, y1⟩, hy⟩ := HSK.out j hj0 hj1
        generalize hyy : Int.tmod (r + j) (L : Int) = y at y0 y1 hy
        have hi2 : wrap64 (j + 1) = j + 1 := w64_in (by omega) (by omega)
        by_cases hjs : j = s
        · have hya := hy.2 hjs
          subst hjs
          have q1 : decide (y = at_) = true := decide_eq_true hya
          have q2 : (y == at_) = true := beq_iff_eq.mpr hya
          clear hy hya
          go_upto_region 9 with (first | fail)
          have b0 := (blk_cell HI.out.1 0).trans (show _ = some (.int .i64 C.p) from rfl)
          have b1 := (blk_cell HI.out.1 1).trans (show _ = some (.int .i64 C.f) from rfl)
          have b2 := (blk_cell HI.out.1 2).trans (show _ = some (.slice A2 C.ws.length c2) from rfl)
          have b3 := (blk_cell HI.out.1 3).trans (show _ = some (.slice A3 C.ks.length c3) from rfl)
          have b4 := (blk_cell HI.out.1 4).trans (show _ = some (.slice A4 C.ac.length c4) from rfl)
          have TS := Aside0.mk (fun (W : World) (hb : Below wr.heap.size wr W) => And.intro (cell_b b0 hb) (And.intro (cell_b b1 hb) (And.intro (cell_b b2 hb) (And.intro (cell_b b3 hb) (cell_b b4 hb)))))
          have HB := Aside0.mk (below_drew (Below.refl wr.heap.size wr))
          have i1 : IntKind.i64.wrap (m2 - 1) = m2 - 1 := IntWalk.i64_in _ (by omega)
          have i2 : IntKind.i64.wrap p = p := IntWalk.i64_in _ (by omega)
          have i3 : IntKind.i64.wrap (j + p) = j + p := IntWalk.i64_in _ (by omega)
          go_region_held3 (fun w' => w'.cell? ⟨w.heap.size, 0, none⟩ = some (.int .i64 C.p) ∧ w'.cell? ⟨w.heap.size, 1, none⟩ = some (.int .i64 C.f) ∧ w'.cell? ⟨w.heap.size, 2, none⟩ = some (.slice A2 C.ws.length c2) ∧ w'.cell? ⟨w.heap.size, 3, none⟩ = some (.slice A3 C.ks.length c3) ∧ w'.cell? ⟨w.heap.size, 4, none⟩ = some (.slice A4 C.ac.length c4)) (first | exact TS.out _ HB.out | exact TS.out _ (below_drew (Below.refl _ _)) | go_keep) (first | (go_at_call 34; (with_reducible refine (AX.out _).mono ?_); rintro e w5 ⟨rfl, rfl⟩) | (go_at_call 33; (with_reducible refine (CNs.out _ (below_step HI.out.2 HB.out)).mono ?_); rintro e w6 ⟨rfl, hb⟩; have HBn := Aside0.mk (below_step HB.out hb); clear HB; have HB := HBn; clear HBn; clear hb))
          all_goals
            go_wp2
            go_ret
            exact ⟨by rw [HR.out]; rfl, below_step HI.out.2 HB.out⟩
        · have hya : y ≠ at_ := fun e => hjs (hy.1 e)
          have q1 : decide (y = at_) = false := decide_eq_false hya
          have q2 : (y == at_) = false := beq_eq_false_iff_ne.mpr hya
          clear hy hya
          go_wp2
          go_roundw
          case rel => exact ⟨j + 1, by first | rfl | rw [hi2] | go_num, by omega, by omega, HI⟩
          case measure => simp [intOf]; omega
set_option maxHeartbeats 16000000 in
set_option maxRecDepth 100000 in
theorem rcycle_any {C : Cfg} {A2 A3 A4 : Option Addr} {c2 c3 c4 : Nat} {w : World} (hX : CX w C A2 c2 A3 c3 A4 c4) (lk : C.ks.length ≤ 1000) (la : C.ac.length ≤ 1000) (lw : C.ws.length ≤ 1000) :
    Calls Tryd.prog 14 #[.agg #[.int .i64 C.p, .int .i64 C.f, .slice A2 C.ws.length c2, .slice A3 C.ks.length c3, .slice A4 C.ac.length c4]] w fun e w' => e = .returned (.int .i64 (cycN C)) ∧ Below w.heap.size w w' := by
  have CM : Aside0 (∀ W : World, Below w.heap.size w W → Calls Tryd.prog 36 #[.agg #[.int .i64 C.p, .int .i64 C.f, .slice A2 C.ws.length c2, .slice A3 C.ks.length c3, .slice A4 C.ac.length c4]] W fun e w' => e = .returned (.bool (okB C)) ∧ Below W.heap.size W w') := ⟨fun W hb => rmay_any (hX.below hb) lw lk la⟩
  have CP : Aside0 (∀ W : World, Below w.heap.size w W → Calls Tryd.prog 30 #[.agg #[.int .i64 C.p, .int .i64 C.f, .slice A2 C.ws.length c2, .slice A3 C.ks.length c3, .slice A4 C.ac.length c4], .int .i64 (-1)] W fun e w' => e = .returned (.tuple #[.int .i64 (idxN (-1) (quN C)), .int .i64 ((quN C).length : Int)]) ∧ Below W.heap.size W w') := ⟨fun W hb => place_any (hX.below hb) lk la lw (-1)⟩
  have hcb := cycN_bd C lk
  have hql := quN_len C
  have hL : (quN C).length ≤ 1000 := by omega
  have hcy : cycN C = if okB C = true then C.f * one1 (quN C).length else -1 := rfl
  obtain ⟨ok, hok⟩ : ∃ ok, okB C = ok := ⟨_, rfl⟩
  rw [hok] at CM hcy
  generalize idxN (-1) (quN C) = ix at CP
  obtain ⟨L, hLL⟩ : ∃ L, (quN C).length = L := ⟨_, rfl⟩
  rw [hLL] at CP hL hcy
  clear hX lk la lw hql hLL hok
  have H1 : Aside0 ((w.alloc (.cells #[.int .i64 C.p, .int .i64 C.f, .slice A2 C.ws.length c2, .slice A3 C.ks.length c3, .slice A4 C.ac.length c4] 26)).heap[w.heap.size]? = some (.cells #[.int .i64 C.p, .int .i64 C.f, .slice A2 C.ws.length c2, .slice A3 C.ks.length c3, .slice A4 C.ac.length c4] 26 (0, 0)) ∧ Below w.heap.size w (w.alloc (.cells #[.int .i64 C.p, .int .i64 C.f, .slice A2 C.ws.length c2, .slice A3 C.ks.length c3, .slice A4 C.ac.length c4] 26))) := ⟨⟨blk_new _ _, below_alloc (Below.refl _ _) _⟩⟩
  have b0 := (blk_cell H1.out.1 0).trans (show _ = some (.int .i64 C.p) from rfl)
  have b1 := (blk_cell H1.out.1 1).trans (show _ = some (.int .i64 C.f) from rfl)
  have b2 := (blk_cell H1.out.1 2).trans (show _ = some (.slice A2 C.ws.length c2) from rfl)
  have b3 := (blk_cell H1.out.1 3).trans (show _ = some (.slice A3 C.ks.length c3) from rfl)
  have b4 := (blk_cell H1.out.1 4).trans (show _ = some (.slice A4 C.ac.length c4) from rfl)
  cases ok
  · rw [if_neg (by decide)] at hcy
    rw [hcy]
    clear hcy hcb
    go_enter Tryd.func14, Tryd.ntmps14
    go_wp2_with (first | (go_at_call 36; (with_reducible refine (CM.out _ H1.out.2).mono ?_); rintro e w2 ⟨rfl, hb⟩; have H2 := Aside0.mk (And.intro (blk_below H1.out.1 hb) (below_step H1.out.2 hb)); clear hb b0 b1 b2 b3 b4))
    go_ret
    exact ⟨rfl, H2.out.2⟩
  · rw [if_pos rfl] at hcy
    rw [hcy] at hcb ⊢
    clear hcy
    obtain ⟨m1, hm1⟩ : ∃ m, (if (L : Int) < 1 then 1 else (L : Int)) = m := ⟨_, rfl⟩
    have hmo : one1 L = m1 := hm1
    rw [hmo] at hcb ⊢
    clear hmo
    obtain ⟨hcb0, hcb1⟩ := hcb
    obtain ⟨p, hp⟩ : ∃ p, C.f * m1 = p := ⟨_, rfl⟩
    rw [hp] at hcb0 hcb1 ⊢
    go_enter Tryd.func14, Tryd.ntmps14
    go_wp2_with (first | (go_at_call 36; (with_reducible refine (CM.out _ H1.out.2).mono ?_); rintro e w2 ⟨rfl, hb⟩; have H2 := Aside0.mk (And.intro (blk_below H1.out.1 hb) (below_step H1.out.2 hb)); clear hb b0 b1 b2 b3 b4; have b0 := (blk_cell H2.out.1 0).trans (show _ = some (.int .i64 C.p) from rfl); have b1 := (blk_cell H2.out.1 1).trans (show _ = some (.int .i64 C.f) from rfl); have b2 := (blk_cell H2.out.1 2).trans (show _ = some (.slice A2 C.ws.length c2) from rfl); have b3 := (blk_cell H2.out.1 3).trans (show _ = some (.slice A3 C.ks.length c3) from rfl); have b4 := (blk_cell H2.out.1 4).trans (show _ = some (.slice A4 C.ac.length c4) from rfl)) | (go_at_call 30; (with_reducible refine (CP.out _ H2.out.2).mono ?_); rintro e w3 ⟨rfl, hb⟩; have H3 := Aside0.mk (And.intro (blk_below H2.out.1 hb) (below_step H2.out.2 hb)); clear hb b0 b1 b2 b3 b4; have b0 := (blk_cell H3.out.1 0).trans (show _ = some (.int .i64 C.p) from rfl); have b1 := (blk_cell H3.out.1 1).trans (show _ = some (.int .i64 C.f) from rfl); have b2 := (blk_cell H3.out.1 2).trans (show _ = some (.slice A2 C.ws.length c2) from rfl); have b3 := (blk_cell H3.out.1 3).trans (show _ = some (.slice A3 C.ks.length c3) from rfl); have b4 := (blk_cell H3.out.1 4).trans (show _ = some (.slice A4 C.ac.length c4) from rfl)))
    go_ret
    exact ⟨rfl, H3.out.2⟩
set_option maxHeartbeats 16000000 in
set_option maxRecDepth 100000 in
theorem rwait_any {C : Cfg} {A2 A3 A4 : Option Addr} {c2 c3 c4 : Nat} {w : World} (hX : CX w C A2 c2 A3 c3 A4 c4) (lk : C.ks.length ≤ 1000) (la : C.ac.length ≤ 1000) (lw : C.ws.length ≤ 1000) (ch n : Int) :
    Calls Tryd.prog 18 #[.agg #[.int .i64 C.p, .int .i64 C.f, .slice A2 C.ws.length c2, .slice A3 C.ks.length c3, .slice A4 C.ac.length c4], .int .i64 ch, .int .i64 n] w fun e w' => e = .returned (.int .i64 (waitN C ch n)) ∧ Below w.heap.size w w' := by
  have CY : Aside0 (∀ W : World, Below w.heap.size w W → Calls Tryd.prog 14 #[.agg #[.int .i64 C.p, .int .i64 C.f, .slice A2 C.ws.length c2, .slice A3 C.ks.length c3, .slice A4 C.ac.length c4]] W fun e w' => e = .returned (.int .i64 (cycN C)) ∧ Below W.heap.size W w') := ⟨fun W hb => rcycle_any (hX.below hb) lk la lw⟩
  have CS : Aside0 (∀ (t : Int) (W : World), Below w.heap.size w W → Calls Tryd.prog 12 #[.agg #[.int .i64 C.p, .int .i64 C.f, .slice A2 C.ws.length c2, .slice A3 C.ks.length c3, .slice A4 C.ac.length c4], .int .i64 ch, .int .i64 t, .int .i64 n] W fun e w' => e = .returned (.int .i64 (serveN C ch t n)) ∧ Below W.heap.size W w') := ⟨fun t W hb => rserve_any (hX.below hb) lk la lw ch t n⟩
  have hcb := cycN_bd C lk
  have hwn : waitN C ch n = waitTo C ch n (cycN C).toNat := rfl
  rw [hwn]
  clear hwn
  generalize cycN C = cy at CY hcb ⊢
  obtain ⟨hcb0, hcb1⟩ := hcb
  obtain ⟨N, hN⟩ : ∃ N, cy.toNat = N := ⟨_, rfl⟩
  have hN1 : N ≤ 64000 := by omega
  have HN := Aside0.mk hN
  rw [hN]
  clear hX lk la lw hN
  have H1 : Aside0 ((w.alloc (.cells #[.int .i64 C.p, .int .i64 C.f, .slice A2 C.ws.length c2, .slice A3 C.ks.length c3, .slice A4 C.ac.length c4] 26)).heap[w.heap.size]? = some (.cells #[.int .i64 C.p, .int .i64 C.f, .slice A2 C.ws.length c2, .slice A3 C.ks.length c3, .slice A4 C.ac.length c4] 26 (0, 0)) ∧ Below w.heap.size w (w.alloc (.cells #[.int .i64 C.p, .int .i64 C.f, .slice A2 C.ws.length c2, .slice A3 C.ks.length c3, .slice A4 C.ac.length c4] 26))) := ⟨⟨blk_new _ _, below_alloc (Below.refl _ _) _⟩⟩
  have b0 := (blk_cell H1.out.1 0).trans (show _ = some (.int .i64 C.p) from rfl)
  have b1 := (blk_cell H1.out.1 1).trans (show _ = some (.int .i64 C.f) from rfl)
  have b2 := (blk_cell H1.out.1 2).trans (show _ = some (.slice A2 C.ws.length c2) from rfl)
  have b3 := (blk_cell H1.out.1 3).trans (show _ = some (.slice A3 C.ks.length c3) from rfl)
  have b4 := (blk_cell H1.out.1 4).trans (show _ = some (.slice A4 C.ac.length c4) from rfl)
  go_enter Tryd.func18, Tryd.ntmps18
  go_wp2
  go_loopw [7, 8] (fun v7 v8 wr => ∃ j : Nat, v8 = .int .i64 j ∧ j ≤ N ∧ v7 = .int .i64 (waitTo C ch n j) ∧ Aside0 (wr.heap[w.heap.size]? = some (.cells #[.int .i64 C.p, .int .i64 C.f, .slice A2 C.ws.length c2, .slice A3 C.ks.length c3, .slice A4 C.ac.length c4] 26 (0, 0)) ∧ Below w.heap.size w wr)) (fun _ v8 _ => N - (intOf v8).toNat)
  case atStart => exact ⟨0, rfl, by omega, rfl, H1⟩
  case round =>
    clear b0 b1 b2 b3 b4 H1
    rename_i gv7 gv8
    obtain ⟨j, rfl, hj, rfl, HI⟩ := hrel
    have b0 := (blk_cell HI.out.1 0).trans (show _ = some (.int .i64 C.p) from rfl)
    have b1 := (blk_cell HI.out.1 1).trans (show _ = some (.int .i64 C.f) from rfl)
    have b2 := (blk_cell HI.out.1 2).trans (show _ = some (.slice A2 C.ws.length c2) from rfl)
    have b3 := (blk_cell HI.out.1 3).trans (show _ = some (.slice A3 C.ks.length c3) from rfl)
    have b4 := (blk_cell HI.out.1 4).trans (show _ = some (.slice A4 C.ac.length c4) from rfl)
    by_cases hlt : j < N
    · have d1 : decide ((j : Int) < cy) = true := decide_eq_true (by have := HN.out; omega)
      have CSj := Aside0.mk (CS.out (j : Int))
      have hsb := serveN_bd C ch (j : Int) n
      have hwb := waitTo_bd C ch n j (by omega)
      have HST : Aside0 (waitTo C ch n (j + 1) = noteN (waitTo C ch n j) j (serveN C ch j n)) := ⟨rfl⟩
      generalize serveN C ch (j : Int) n = s at CSj hsb HST
      generalize waitTo C ch n j = m at hwb HST ⊢
      obtain ⟨hsb0, hsb1⟩ := hsb
      obtain ⟨hwb0, hwb1⟩ := hwb
      by_cases hs : 0 ≤ s
      · have d2 : decide (0 ≤ s) = true := decide_eq_true hs
        obtain ⟨v, hmx⟩ : ∃ v, (if m < s - (j : Int) then s - (j : Int) else m) = v := ⟨_, rfl⟩
        have HE : Aside0 (waitTo C ch n (j + 1) = v) := ⟨by rw [HST.out]; unfold noteN; rw [if_pos hs]; exact hmx⟩
        clear hs
        go_wp2_with (first | (go_at_call 14; (with_reducible refine (CY.out _ HI.out.2).mono ?_); rintro e w3 ⟨rfl, hb⟩; have H3 := Aside0.mk (And.intro (blk_below HI.out.1 hb) (below_step HI.out.2 hb)); clear hb b0 b1 b2 b3 b4; have b0 := (blk_cell H3.out.1 0).trans (show _ = some (.int .i64 C.p) from rfl); have b1 := (blk_cell H3.out.1 1).trans (show _ = some (.int .i64 C.f) from rfl); have b2 := (blk_cell H3.out.1 2).trans (show _ = some (.slice A2 C.ws.length c2) from rfl); have b3 := (blk_cell H3.out.1 3).trans (show _ = some (.slice A3 C.ks.length c3) from rfl); have b4 := (blk_cell H3.out.1 4).trans (show _ = some (.slice A4 C.ac.length c4) from rfl)) | (go_at_call 12; (with_reducible refine (CSj.out _ H3.out.2).mono ?_); rintro e w4 ⟨rfl, hb⟩; have H4 := Aside0.mk (And.intro (blk_below H3.out.1 hb) (below_step H3.out.2 hb)); clear hb b0 b1 b2 b3 b4))
        go_roundw
        case rel => exact ⟨j + 1, by go_num, by omega, by rw [HE.out], H4⟩
        case measure => simp [intOf]; omega
      · have d2 : decide (0 ≤ s) = false := decide_eq_false hs
        have HE : Aside0 (waitTo C ch n (j + 1) = m) := ⟨by rw [HST.out]; unfold noteN; rw [if_neg hs]⟩
        clear hs
        go_wp2_with (first | (go_at_call 14; (with_reducible refine (CY.out _ HI.out.2).mono ?_); rintro e w3 ⟨rfl, hb⟩; have H3 := Aside0.mk (And.intro (blk_below HI.out.1 hb) (below_step HI.out.2 hb)); clear hb b0 b1 b2 b3 b4; have b0 := (blk_cell H3.out.1 0).trans (show _ = some (.int .i64 C.p) from rfl); have b1 := (blk_cell H3.out.1 1).trans (show _ = some (.int .i64 C.f) from rfl); have b2 := (blk_cell H3.out.1 2).trans (show _ = some (.slice A2 C.ws.length c2) from rfl); have b3 := (blk_cell H3.out.1 3).trans (show _ = some (.slice A3 C.ks.length c3) from rfl); have b4 := (blk_cell H3.out.1 4).trans (show _ = some (.slice A4 C.ac.length c4) from rfl)) | (go_at_call 12; (with_reducible refine (CSj.out _ H3.out.2).mono ?_); rintro e w4 ⟨rfl, hb⟩; have H4 := Aside0.mk (And.intro (blk_below H3.out.1 hb) (below_step H3.out.2 hb)); clear hb b0 b1 b2 b3 b4))
        go_roundw
        case rel => exact ⟨j + 1, by go_num, by omega, by rw [HE.out], H4⟩
        case measure => simp [intOf]; omega
    · have d1 : decide ((j : Int) < cy) = false := decide_eq_false (by have := HN.out; omega)
      obtain rfl : j = N := by omega
      go_wp2_with (first | (go_at_call 14; (with_reducible refine (CY.out _ HI.out.2).mono ?_); rintro e w3 ⟨rfl, hb⟩; have H3 := Aside0.mk (And.intro (blk_below HI.out.1 hb) (below_step HI.out.2 hb)); clear hb b0 b1 b2 b3 b4; have b0 := (blk_cell H3.out.1 0).trans (show _ = some (.int .i64 C.p) from rfl); have b1 := (blk_cell H3.out.1 1).trans (show _ = some (.int .i64 C.f) from rfl); have b2 := (blk_cell H3.out.1 2).trans (show _ = some (.slice A2 C.ws.length c2) from rfl); have b3 := (blk_cell H3.out.1 3).trans (show _ = some (.slice A3 C.ks.length c3) from rfl); have b4 := (blk_cell H3.out.1 4).trans (show _ = some (.slice A4 C.ac.length c4) from rfl)))
      go_ret
      exact ⟨rfl, H3.out.2⟩
set_option maxHeartbeats 16000000 in
set_option maxRecDepth 100000 in
theorem rbound_any {C : Cfg} {A2 A3 A4 : Option Addr} {c2 c3 c4 : Nat} {w : World} (hX : CX w C A2 c2 A3 c3 A4 c4) (lk : C.ks.length ≤ 1000) (la : C.ac.length ≤ 1000) (lw : C.ws.length ≤ 1000) (ch lane : Int) :
    Calls Tryd.prog 16 #[.agg #[.int .i64 C.p, .int .i64 C.f, .slice A2 C.ws.length c2, .slice A3 C.ks.length c3, .slice A4 C.ac.length c4], .int .i64 ch, .int .i64 lane] w fun e w' => e = .returned (.int .i64 (boundN C ch lane)) ∧ Below w.heap.size w w' := by
  have CP : Aside0 (∀ W : World, Below w.heap.size w W → Calls Tryd.prog 30 #[.agg #[.int .i64 C.p, .int .i64 C.f, .slice A2 C.ws.length c2, .slice A3 C.ks.length c3, .slice A4 C.ac.length c4], .int .i64 ch] W fun e w' => e = .returned (.tuple #[.int .i64 (idxN ch (quN C)), .int .i64 ((quN C).length : Int)]) ∧ Below W.heap.size W w') := ⟨fun W hb => place_any (hX.below hb) lk la lw ch⟩
  have CW : Aside0 (∀ (d : Int) (W : World), Below w.heap.size w W → Calls Tryd.prog 18 #[.agg #[.int .i64 C.p, .int .i64 C.f, .slice A2 C.ws.length c2, .slice A3 C.ks.length c3, .slice A4 C.ac.length c4], .int .i64 ch, .int .i64 d] W fun e w' => e = .returned (.int .i64 (waitN C ch d)) ∧ Below W.heap.size W w') := ⟨fun d W hb => rwait_any (hX.below hb) lk la lw ch d⟩
  have HX := Aside0.mk hX.k
  have hmem := fun h => quN_mem (C := C) (ch := ch) h
  have HV : Aside0 (boundN C ch lane = if idxN ch (quN C) < 0 then -1 else if lane < 0 ∨ (lf C ch).f5 ≤ lane then -1 else if 0 < lane ∨ waitN C ch (lf C ch).f6 < 0 then (lf C ch).f8 else if waitN C ch (lf C ch).f6 + 1 < (lf C ch).f8 then waitN C ch (lf C ch).f6 + 1 else (lf C ch).f8) := ⟨rfl⟩
  have hwb := fun d => waitTo_bd C ch d (cycN C).toNat (by have := cycN_bd C lk; omega)
  replace hwb : ∀ d, -1000000 ≤ waitN C ch d ∧ waitN C ch d ≤ 4611686018427387904 := hwb
  generalize boundN C ch lane = res at HV ⊢
  generalize idxN ch (quN C) = at_ at HV CP hmem
  generalize ((quN C).length : Int) = L at CP
  clear hX la lw
  have H1 : Aside0 ((w.alloc (.cells #[.int .i64 C.p, .int .i64 C.f, .slice A2 C.ws.length c2, .slice A3 C.ks.length c3, .slice A4 C.ac.length c4] 26)).heap[w.heap.size]? = some (.cells #[.int .i64 C.p, .int .i64 C.f, .slice A2 C.ws.length c2, .slice A3 C.ks.length c3, .slice A4 C.ac.length c4] 26 (0, 0)) ∧ Below w.heap.size w (w.alloc (.cells #[.int .i64 C.p, .int .i64 C.f, .slice A2 C.ws.length c2, .slice A3 C.ks.length c3, .slice A4 C.ac.length c4] 26))) := ⟨⟨blk_new _ _, below_alloc (Below.refl _ _) _⟩⟩
  have b0 := (blk_cell H1.out.1 0).trans (show _ = some (.int .i64 C.p) from rfl)
  have b1 := (blk_cell H1.out.1 1).trans (show _ = some (.int .i64 C.f) from rfl)
  have b2 := (blk_cell H1.out.1 2).trans (show _ = some (.slice A2 C.ws.length c2) from rfl)
  have b3 := (blk_cell H1.out.1 3).trans (show _ = some (.slice A3 C.ks.length c3) from rfl)
  have b4 := (blk_cell H1.out.1 4).trans (show _ = some (.slice A4 C.ac.length c4) from rfl)
  by_cases ha : at_ < 0
  · have d1 : decide (at_ < 0) = true := decide_eq_true ha
    have HR : Aside0 (res = -1) := ⟨by rw [HV.out, if_pos ha]⟩
    clear HV ha hwb hmem
    go_enter Tryd.func16, Tryd.ntmps16
    go_wp2_with (first | (go_at_call 30; (with_reducible refine (CP.out _ H1.out.2).mono ?_); rintro e w2 ⟨rfl, hb⟩; have H2 := Aside0.mk (And.intro (blk_below H1.out.1 hb) (below_step H1.out.2 hb)); clear hb b0 b1 b2 b3 b4; have b0 := (blk_cell H2.out.1 0).trans (show _ = some (.int .i64 C.p) from rfl); have b1 := (blk_cell H2.out.1 1).trans (show _ = some (.int .i64 C.f) from rfl); have b2 := (blk_cell H2.out.1 2).trans (show _ = some (.slice A2 C.ws.length c2) from rfl); have b3 := (blk_cell H2.out.1 3).trans (show _ = some (.slice A3 C.ks.length c3) from rfl); have b4 := (blk_cell H2.out.1 4).trans (show _ = some (.slice A4 C.ac.length c4) from rfl)))
    go_ret
    exact ⟨by rw [HR.out]; rfl, H2.out.2⟩
  · have d1 : decide (at_ < 0) = false := decide_eq_false ha
    obtain ⟨hc0, hc1⟩ := hmem (by omega)
    have HV2 := Aside0.mk (HV.out.trans (if_neg ha))
    clear HV ha hmem
    obtain ⟨cn, hcn⟩ : ∃ cn : Nat, (cn : Int) = ch := ⟨ch.toNat, by omega⟩
    have hcn1 : cn < C.ks.length := by omega
    have hlf : lf C ch = C.ks[cn] := by unfold lf; rw [show ch.toNat = cn by omega, List.getElem?_eq_getElem hcn1]; rfl
    rw [hlf] at HV2
    clear hlf
    have HCS := Aside0.mk (fun (W : World) (hb : Below w.heap.size w W) => at_T43 (Kd.C_below HX.out hb) ch hc0 hc1)
    have hrd : rd_T43 C.ks ch = C.ks[cn] := by rw [← hcn]; simp [rd_T43, hcn1]
    rw [hrd] at HCS
    clear hrd HX
    generalize C.ks[cn] = x at HV2 HCS
    clear hcn hcn1
    obtain ⟨x0, x1, x2, x3, x4, x5, x6, x7, x8, x9, x10⟩ := x
    simp only [] at HV2 HCS
    go_enter Tryd.func16, Tryd.ntmps16
    go_upto_region 5 with (first | (go_at_call 30; (with_reducible refine (CP.out _ H1.out.2).mono ?_); rintro e w2 ⟨rfl, hb⟩; have H2 := Aside0.mk (And.intro (blk_below H1.out.1 hb) (below_step H1.out.2 hb)); clear hb b0 b1 b2 b3 b4; have b0 := (blk_cell H2.out.1 0).trans (show _ = some (.int .i64 C.p) from rfl); have b1 := (blk_cell H2.out.1 1).trans (show _ = some (.int .i64 C.f) from rfl); have b2 := (blk_cell H2.out.1 2).trans (show _ = some (.slice A2 C.ws.length c2) from rfl); have b3 := (blk_cell H2.out.1 3).trans (show _ = some (.slice A3 C.ks.length c3) from rfl); have b4 := (blk_cell H2.out.1 4).trans (show _ = some (.slice A4 C.ac.length c4) from rfl); obtain ⟨ad, rfl, e0, e1, e2, e3, e4, e5, e6, e7, e8, e9, e10⟩ := HCS.out _ H2.out.2; (try simp only [] at e0 e1 e2 e3 e4 e5 e6 e7 e8 e9 e10)))
    have H5 : (w2.alloc (.cells #[.int .i64 x0, .int .i64 x1, .int .i64 x2, .int .i64 x3, .int .i64 x4, .int .i64 x5, .int .i64 x6, .int .i64 x7, .int .i64 x8, .int .i64 x9, .int .i64 x10] 43)).heap[w2.heap.size]? = some (.cells #[.int .i64 x0, .int .i64 x1, .int .i64 x2, .int .i64 x3, .int .i64 x4, .int .i64 x5, .int .i64 x6, .int .i64 x7, .int .i64 x8, .int .i64 x9, .int .i64 x10] 43 (0, 0)) ∧ (w2.alloc (.cells #[.int .i64 x0, .int .i64 x1, .int .i64 x2, .int .i64 x3, .int .i64 x4, .int .i64 x5, .int .i64 x6, .int .i64 x7, .int .i64 x8, .int .i64 x9, .int .i64 x10] 43)).heap[w.heap.size]? = some (.cells #[.int .i64 C.p, .int .i64 C.f, .slice A2 C.ws.length c2, .slice (some ad) C.ks.length c3, .slice A4 C.ac.length c4] 26 (0, 0)) ∧ Below w.heap.size w (w2.alloc (.cells #[.int .i64 x0, .int .i64 x1, .int .i64 x2, .int .i64 x3, .int .i64 x4, .int .i64 x5, .int .i64 x6, .int .i64 x7, .int .i64 x8, .int .i64 x9, .int .i64 x10] 43)) := ⟨blk_new _ _, blk_alloc H2.out.1 _, below_alloc H2.out.2 _⟩
    clear b0 b1 b2 b3 b4 e0 e1 e2 e3 e4 e5 e6 e7 e8 e9 e10 H2 H1
    revert H5
    generalize (w2.alloc (.cells #[.int .i64 x0, .int .i64 x1, .int .i64 x2, .int .i64 x3, .int .i64 x4, .int .i64 x5, .int .i64 x6, .int .i64 x7, .int .i64 x8, .int .i64 x9, .int .i64 x10] 43)) = w5
    generalize w2.heap.size = kb
    intro H5
    have H5A := Aside0.mk H5
    clear H5
    have b0 := (blk_cell H5A.out.2.1 0).trans (show _ = some (.int .i64 C.p) from rfl)
    have b1 := (blk_cell H5A.out.2.1 1).trans (show _ = some (.int .i64 C.f) from rfl)
    have b2 := (blk_cell H5A.out.2.1 2).trans (show _ = some (.slice A2 C.ws.length c2) from rfl)
    have b3 := (blk_cell H5A.out.2.1 3).trans (show _ = some (.slice (some ad) C.ks.length c3) from rfl)
    have b4 := (blk_cell H5A.out.2.1 4).trans (show _ = some (.slice A4 C.ac.length c4) from rfl)
    have c5 := (blk_cell H5A.out.1 5).trans (show _ = some (.int .i64 x5) from rfl)
    have c6 := (blk_cell H5A.out.1 6).trans (show _ = some (.int .i64 x6) from rfl)
    by_cases hl0 : lane < 0
    · have d2 : decide (lane < 0) = true := decide_eq_true hl0
      have HR : Aside0 (res = -1) := ⟨by rw [HV2.out, if_pos (Or.inl hl0)]⟩
      clear HV2 hl0 hwb
      go_wp2
      go_ret
      exact ⟨by rw [HR.out]; rfl, H5A.out.2.2⟩
    · have d2 : decide (lane < 0) = false := decide_eq_false hl0
      by_cases hl1 : x5 ≤ lane
      · have d3 : decide (x5 ≤ lane) = true := decide_eq_true hl1
        have HR : Aside0 (res = -1) := ⟨by rw [HV2.out, if_pos (Or.inr hl1)]⟩
        clear HV2 hl0 hl1 hwb
        go_wp2
        go_ret
        exact ⟨by rw [HR.out]; rfl, H5A.out.2.2⟩
      · have d3 : decide (x5 ≤ lane) = false := decide_eq_false hl1
        have HV3 := Aside0.mk (HV2.out.trans (if_neg (fun h => h.elim hl0 hl1)))
        clear HV2
        have CWd := Aside0.mk (CW.out x6)
        have hwd := hwb x6
        generalize waitN C ch x6 = wt at CWd HV3 hwd
        clear hwb CW
        obtain ⟨hwd0, hwd1⟩ := hwd
        by_cases hp : 0 < lane
        · have d4 : decide (0 < lane) = true := decide_eq_true hp
          have HR : Aside0 (res = x8) := ⟨by rw [HV3.out, if_pos (Or.inl hp)]⟩
          clear HV3 hp hl0 hl1
          go_wp2_with (first | (go_at_call 18; (with_reducible refine (CWd.out _ H5A.out.2.2).mono ?_); rintro e w6 ⟨rfl, hb⟩; have c8 := (blk_cell (blk_below H5A.out.1 hb) 8).trans (show _ = some (.int .i64 x8) from rfl); have H6 := Aside0.mk (below_step H5A.out.2.2 hb); clear hb b0 b1 b2 b3 b4 c5 c6))
          go_ret
          exact ⟨by rw [HR.out]; rfl, H6.out⟩
        · have d4 : decide (0 < lane) = false := decide_eq_false hp
          by_cases hw : wt < 0
          · have d5 : decide (wt < 0) = true := decide_eq_true hw
            have HR : Aside0 (res = x8) := ⟨by rw [HV3.out, if_pos (Or.inr hw)]⟩
            clear HV3 hp hl0 hl1 hw
            go_wp2_with (first | (go_at_call 18; (with_reducible refine (CWd.out _ H5A.out.2.2).mono ?_); rintro e w6 ⟨rfl, hb⟩; have c8 := (blk_cell (blk_below H5A.out.1 hb) 8).trans (show _ = some (.int .i64 x8) from rfl); have H6 := Aside0.mk (below_step H5A.out.2.2 hb); clear hb b0 b1 b2 b3 b4 c5 c6))
            go_ret
            exact ⟨by rw [HR.out]; rfl, H6.out⟩
          · have d5 : decide (wt < 0) = false := decide_eq_false hw
            have HV4 := Aside0.mk (HV3.out.trans (if_neg (fun h => h.elim hp hw)))
            clear HV3 hp hl0 hl1 hw
            obtain ⟨mm, hmm⟩ : ∃ mm, (if wt + 1 < x8 then wt + 1 else x8) = mm := ⟨_, rfl⟩
            have HR : Aside0 (res = mm) := ⟨HV4.out.trans hmm⟩
            clear HV4
            go_wp2_with (first | (go_at_call 18; (with_reducible refine (CWd.out _ H5A.out.2.2).mono ?_); rintro e w6 ⟨rfl, hb⟩; have c8 := (blk_cell (blk_below H5A.out.1 hb) 8).trans (show _ = some (.int .i64 x8) from rfl); have H6 := Aside0.mk (below_step H5A.out.2.2 hb); clear hb b0 b1 b2 b3 b4 c5 c6))
            go_ret
            exact ⟨by rw [HR.out]; rfl, H6.out⟩
end Go.Proofs.YtcebmgndniejcaaDoor.Wn
