/- Layer 21 (bound): Wait and Bound: what they come to. -/
import Derived.Test.YtcebmgndniejcaaDoorBn
set_option linter.unusedVariables false
set_option linter.unusedSimpArgs false
namespace Go.Proofs.YtcebmgndniejcaaDoor.Wn
open Go Go.RowKit Go.Shelf Go.Proofs.YtcebmgndniejcaaDoorW.PrintWords Go.Proofs.YtcebmgndniejcaaDoorW.PrintLast Go.Proofs.YtcebmgndniejcaaDoorW.PrintMore Go.Proofs.YtcebmgndniejcaaDoor.Cz Go.Proofs.YtcebmgndniejcaaDoor.PBoundWaits Go.Proofs.YtcebmgndniejcaaDoor.Cf Go.Proofs.YtcebmgndniejcaaDoor.Sat
attribute [local go_sem] max2_int min2_int max_two min_two max_three min_three max_four min_four Tryd.underlying26 Tryd.underlying41 Tryd.underlying43
theorem qu_lt (ks : List S43) : ∀ (m : Nat), ∀ y ∈ qu ks m, 0 ≤ y ∧ y < m
  | 0, y, h => by cases h
  | m + 1, y, h => by
    have h' : y ∈ qu ks m ++ (match ks[m]? with | some x => if x.f0 = 1 then [(m : Int)] else [] | none => []) := h
    rcases List.mem_append.1 h' with h1 | h1
    · have := qu_lt ks m y h1
      omega
    · split at h1
      · split at h1
        · have := List.mem_singleton.1 h1
          omega
        · cases h1
      · cases h1
theorem idxF_mem (x : Int) : ∀ (l : List Int) (i : Int), 0 ≤ i → 0 ≤ idxF x l i → x ∈ l
  | [], i, _, h => by
    have h' : (0 : Int) ≤ -1 := h
    omega
  | a :: t, i, hi, h => by
    have h' : 0 ≤ (if x = a then i else idxF x t (i + 1)) := h
    by_cases hx : x = a
    · exact hx ▸ List.mem_cons_self ..
    · rw [if_neg hx] at h'
      exact List.mem_cons_of_mem _ (idxF_mem x t (i + 1) (by omega) h')
theorem quN_mem {C : Cfg} {ch : Int} (h : 0 ≤ idxN ch (quN C)) : 0 ≤ ch ∧ ch < C.ks.length := by
  have h1 := idxF_mem ch (quN C) 0 (Int.le_refl _) h
  unfold quN at h1
  split at h1
  · exact qu_lt C.ks C.ks.length ch h1
  · cases h1
set_option maxHeartbeats 16000000 in
set_option maxRecDepth 100000 in
theorem note_any {W : World} {lb : Nat} {m : Int} (hb : W.heap[lb]? = some (.cells #[.int .i64 m] 3 (0, 0))) (t s : Int) (hm : -1000000 ≤ m ∧ m ≤ 4611686018427387904) (ht : 0 ≤ t ∧ t ≤ 64000) (hs : -1 ≤ s ∧ s ≤ 4611686018427387904) :
    Calls Tryd.prog 38 #[.int .i64 t, .int .i64 s, .pointer (some ⟨lb, 0, none⟩)] W fun e W' => e = .returned (.tuple #[]) ∧ W'.heap[lb]? = some (.cells #[.int .i64 (noteN m t s)] 3 (0, 0)) ∧ (W' = W ∨ W' = W.setCell ⟨lb, 0, none⟩ (.int .i64 (noteN m t s))) := by
  have l0 := (blk_cell hb 0).trans (show _ = some (.int .i64 m) from rfl)
  have lf := blk_frozen hb 0
  have HB := Aside0.mk hb
  clear hb
  obtain ⟨hm0, hm1⟩ := hm
  obtain ⟨ht0, ht1⟩ := ht
  obtain ⟨hs0, hs1⟩ := hs
  obtain ⟨v, hv⟩ : ∃ v, noteN m t s = v := ⟨_, rfl⟩
  rw [hv]
  have HV : Aside0 ((if 0 ≤ s then (if m < s - t then s - t else m) else m) = v) := ⟨hv⟩
  clear hv
  by_cases h : 0 ≤ s
  · have d1 : decide (0 ≤ s) = true := decide_eq_true h
    have hmx : (if m < s - t then s - t else m) = v := (if_pos h).symm.trans HV.out
    clear h
    go_enter Tryd.func38, Tryd.ntmps38
    go_wp2
    go_end0
    exact ⟨rfl, blk_put HB.out 0 _ rfl, Or.inr rfl⟩
  · have d1 : decide (0 ≤ s) = false := decide_eq_false h
    have hmv : m = v := (if_neg h).symm.trans HV.out
    subst hmv
    clear h
    go_enter Tryd.func38, Tryd.ntmps38
    go_wp2
    go_end0
    exact ⟨rfl, HB.out, Or.inl rfl⟩
theorem wait_keep {w W W' : World} {xs : Array Value} {v u : Value} (h1 : W.heap[w.heap.size]? = some (.cells xs 26 (0, 0))) (hl : W'.heap[w.heap.size + 1]? = some (.cells #[v] 3 (0, 0))) (h3 : Below w.heap.size w W) (h : W' = W ∨ W' = W.setCell ⟨w.heap.size + 1, 0, none⟩ u) :
    W'.heap[w.heap.size]? = some (.cells xs 26 (0, 0)) ∧ W'.heap[w.heap.size + 1]? = some (.cells #[v] 3 (0, 0)) ∧ Below w.heap.size w W' := by
  rcases h with rfl | rfl
  · exact ⟨h1, hl, h3⟩
  · exact ⟨blk_far (p := ⟨w.heap.size + 1, 0, none⟩) h1 (by show w.heap.size ≠ w.heap.size + 1; omega) u, hl, below_set h3 (by omega)⟩
set_option maxHeartbeats 16000000 in
set_option maxRecDepth 100000 in
theorem wait_any {C : Cfg} {A2 A3 A4 : Option Addr} {c2 c3 c4 : Nat} {w : World} (hX : CX w C A2 c2 A3 c3 A4 c4) (hg : LG w) (lk : C.ks.length ≤ 1000) (la : C.ac.length ≤ 1000) (lw : C.ws.length ≤ 1000) (ch n : Int) :
    Calls Tryd.prog 17 #[.agg #[.int .i64 C.p, .int .i64 C.f, .slice A2 C.ws.length c2, .slice A3 C.ks.length c3, .slice A4 C.ac.length c4], .int .i64 ch, .int .i64 n] w fun e w' => e = .returned (.int .i64 (waitN C ch n)) ∧ Below w.heap.size w w' := by
  have CY : Aside0 (∀ W : World, Below w.heap.size w W → Calls Tryd.prog 13 #[.agg #[.int .i64 C.p, .int .i64 C.f, .slice A2 C.ws.length c2, .slice A3 C.ks.length c3, .slice A4 C.ac.length c4]] W fun e w' => e = .returned (.int .i64 (cycN C)) ∧ Below W.heap.size W w') := ⟨fun W hb => cycle_any (hX.below hb) (hg.below hb) lk la lw⟩
  have CS : Aside0 (∀ (t : Int) (W : World), Below w.heap.size w W → Calls Tryd.prog 11 #[.agg #[.int .i64 C.p, .int .i64 C.f, .slice A2 C.ws.length c2, .slice A3 C.ks.length c3, .slice A4 C.ac.length c4], .int .i64 ch, .int .i64 t, .int .i64 n] W fun e w' => e = .returned (.int .i64 (serveN C ch t n)) ∧ Below W.heap.size W w') := ⟨fun t W hb => serve_any (hX.below hb) (hg.below hb) lk la lw ch t n⟩
  have hcb := cycN_bd C lk
  have hwn : waitN C ch n = waitTo C ch n (cycN C).toNat := rfl
  rw [hwn]
  clear hwn
  generalize cycN C = cy at CY hcb ⊢
  obtain ⟨hcb0, hcb1⟩ := hcb
  obtain ⟨N, hN⟩ : ∃ N, cy.toNat = N := ⟨_, rfl⟩
  have hmN : (if cy < 0 then 0 else cy) = (N : Int) := by split <;> omega
  have hN1 : N ≤ 64000 := by omega
  rw [hN]
  clear hX hg lk la lw hN
  have hmf : ∀ (fn : Fn) (first cap : Array Value) (w : World), (Instr.makeFunc fn first cap).run Tryd.prog w = .ok (.func fn first cap) w := fun _ _ _ _ => rfl
  have H2 : ((w.alloc (.cells #[.int .i64 C.p, .int .i64 C.f, .slice A2 C.ws.length c2, .slice A3 C.ks.length c3, .slice A4 C.ac.length c4] 26)).alloc (.cells #[.int .i64 (-1)] 3)).heap[w.heap.size]? = some (.cells #[.int .i64 C.p, .int .i64 C.f, .slice A2 C.ws.length c2, .slice A3 C.ks.length c3, .slice A4 C.ac.length c4] 26 (0, 0)) ∧ ((w.alloc (.cells #[.int .i64 C.p, .int .i64 C.f, .slice A2 C.ws.length c2, .slice A3 C.ks.length c3, .slice A4 C.ac.length c4] 26)).alloc (.cells #[.int .i64 (-1)] 3)).heap[w.heap.size + 1]? = some (.cells #[.int .i64 (-1)] 3 (0, 0)) ∧ Below w.heap.size w ((w.alloc (.cells #[.int .i64 C.p, .int .i64 C.f, .slice A2 C.ws.length c2, .slice A3 C.ks.length c3, .slice A4 C.ac.length c4] 26)).alloc (.cells #[.int .i64 (-1)] 3)) := ⟨blk_alloc (blk_new w _) _, by have := blk_new (w.alloc (.cells #[.int .i64 C.p, .int .i64 C.f, .slice A2 C.ws.length c2, .slice A3 C.ks.length c3, .slice A4 C.ac.length c4] 26)) (.cells #[.int .i64 (-1)] 3); rw [World.size_alloc] at this; exact this, below_alloc (below_alloc (Below.refl _ _) _) _⟩
  go_enter Tryd.func17, Tryd.ntmps17
  go_upto_region 3 with (first | fail)
  revert H2
  generalize ((w.alloc (.cells #[.int .i64 C.p, .int .i64 C.f, .slice A2 C.ws.length c2, .slice A3 C.ks.length c3, .slice A4 C.ac.length c4] 26)).alloc (.cells #[.int .i64 (-1)] 3)) = W1
  intro H2
  have HI0 := Aside0.mk H2
  clear H2
  have b0 := (blk_cell HI0.out.1 0).trans (show _ = some (.int .i64 C.p) from rfl)
  have b1 := (blk_cell HI0.out.1 1).trans (show _ = some (.int .i64 C.f) from rfl)
  have b2 := (blk_cell HI0.out.1 2).trans (show _ = some (.slice A2 C.ws.length c2) from rfl)
  have b3 := (blk_cell HI0.out.1 3).trans (show _ = some (.slice A3 C.ks.length c3) from rfl)
  have b4 := (blk_cell HI0.out.1 4).trans (show _ = some (.slice A4 C.ac.length c4) from rfl)
  go_wp2_with (first | (go_at_call 13; (with_reducible refine (CY.out _ HI0.out.2.2).mono ?_); rintro e w2 ⟨rfl, hb⟩; have HI := Aside0.mk (And.intro (blk_below HI0.out.1 hb) (And.intro (blk_below HI0.out.2.1 hb) (below_step HI0.out.2.2 hb))); clear hb b0 b1 b2 b3 b4))
  clear HI0 CY
  go_loopw [14] (fun v14 wr => ∃ j : Nat, v14 = .int .i64 j ∧ j ≤ N ∧ Aside0 (wr.heap[w.heap.size]? = some (.cells #[.int .i64 C.p, .int .i64 C.f, .slice A2 C.ws.length c2, .slice A3 C.ks.length c3, .slice A4 C.ac.length c4] 26 (0, 0)) ∧ wr.heap[w.heap.size + 1]? = some (.cells #[.int .i64 (waitTo C ch n j)] 3 (0, 0)) ∧ Below w.heap.size w wr)) (fun v14 _ => N - (intOf v14).toNat)
  case atStart => exact ⟨0, rfl, by omega, HI⟩
  case round =>
    clear HI
    rename_i gv14
    obtain ⟨j, rfl, hj, HI⟩ := hrel
    have b0 := (blk_cell HI.out.1 0).trans (show _ = some (.int .i64 C.p) from rfl)
    have b1 := (blk_cell HI.out.1 1).trans (show _ = some (.int .i64 C.f) from rfl)
    have b2 := (blk_cell HI.out.1 2).trans (show _ = some (.slice A2 C.ws.length c2) from rfl)
    have b3 := (blk_cell HI.out.1 3).trans (show _ = some (.slice A3 C.ks.length c3) from rfl)
    have b4 := (blk_cell HI.out.1 4).trans (show _ = some (.slice A4 C.ac.length c4) from rfl)
    have l0 := (blk_cell HI.out.2.1 0).trans (show _ = some (.int .i64 (waitTo C ch n j)) from rfl)
    by_cases hlt : j < N
    · have d1 : decide ((j : Int) < (N : Int)) = true := decide_eq_true (by omega)
      have d1n : decide (j < N) = true := decide_eq_true hlt
      have CSj := Aside0.mk (CS.out (j : Int))
      have hsb := serveN_bd C ch (j : Int) n
      have hwb := waitTo_bd C ch n j (by omega)
      have HST : Aside0 (waitTo C ch n (j + 1) = noteN (waitTo C ch n j) j (serveN C ch j n)) := ⟨rfl⟩
      generalize serveN C ch (j : Int) n = s at CSj hsb HST
      generalize waitTo C ch n j = m at HI hwb HST l0
      go_wp2_with (first | (go_at_call 11; (with_reducible refine (CSj.out _ HI.out.2.2).mono ?_); rintro e w3 ⟨rfl, hb⟩; have H3 := Aside0.mk (And.intro (blk_below HI.out.1 hb) (And.intro (blk_below HI.out.2.1 hb) (below_step HI.out.2.2 hb))); clear hb b0 b1 b2 b3 b4 l0) | (go_at_call 38; (with_reducible refine (note_any H3.out.2.1 (j : Int) s hwb (by omega) hsb).mono ?_); rintro e w4 ⟨rfl, hl4, hw4⟩; have H4 : Aside0 (w4.heap[w.heap.size]? = some (.cells #[.int .i64 C.p, .int .i64 C.f, .slice A2 C.ws.length c2, .slice A3 C.ks.length c3, .slice A4 C.ac.length c4] 26 (0, 0)) ∧ w4.heap[w.heap.size + 1]? = some (.cells #[.int .i64 (noteN m (j : Int) s)] 3 (0, 0)) ∧ Below w.heap.size w w4) := ⟨wait_keep H3.out.1 hl4 H3.out.2.2 hw4⟩; clear hl4 hw4))
      go_roundw
      case rel => exact ⟨j + 1, by go_num, by omega, by rw [HST.out]; exact H4⟩
      case measure => simp [intOf]; omega
    · have d1 : decide ((j : Int) < (N : Int)) = false := decide_eq_false (by omega)
      have d1n : decide (j < N) = false := decide_eq_false hlt
      obtain rfl : j = N := by omega
      go_wp2
      go_ret
      exact ⟨rfl, HI.out.2.2⟩
set_option maxHeartbeats 16000000 in
set_option maxRecDepth 100000 in
theorem bound_any {C : Cfg} {A2 A3 A4 : Option Addr} {c2 c3 c4 : Nat} {w : World} (hX : CX w C A2 c2 A3 c3 A4 c4) (hg : LG w) (lk : C.ks.length ≤ 1000) (la : C.ac.length ≤ 1000) (lw : C.ws.length ≤ 1000) (ch lane : Int) :
    Calls Tryd.prog 15 #[.agg #[.int .i64 C.p, .int .i64 C.f, .slice A2 C.ws.length c2, .slice A3 C.ks.length c3, .slice A4 C.ac.length c4], .int .i64 ch, .int .i64 lane] w fun e w' => e = .returned (.int .i64 (boundN C ch lane)) ∧ Below w.heap.size w w' := by
  have CQ : Aside0 (∀ W : World, Below w.heap.size w W → Calls Tryd.prog 24 #[.agg #[.int .i64 C.p, .int .i64 C.f, .slice A2 C.ws.length c2, .slice A3 C.ks.length c3, .slice A4 C.ac.length c4]] W fun e w' => ∃ (Bq : Option Addr) (dq : Nat), e = .returned (.slice Bq (quN C).length dq) ∧ Kd.C (Kd.int .i64) w' Bq (quN C).length (quN C) ∧ Below W.heap.size W w') := ⟨fun W hb => queuing_any (hX.below hb) (hg.below hb) lk la lw⟩
  have CW : Aside0 (∀ (d : Int) (W : World), Below w.heap.size w W → Calls Tryd.prog 17 #[.agg #[.int .i64 C.p, .int .i64 C.f, .slice A2 C.ws.length c2, .slice A3 C.ks.length c3, .slice A4 C.ac.length c4], .int .i64 ch, .int .i64 d] W fun e w' => e = .returned (.int .i64 (waitN C ch d)) ∧ Below W.heap.size W w') := ⟨fun d W hb => wait_any (hX.below hb) (hg.below hb) lk la lw ch d⟩
  have HX := Aside0.mk hX.k
  have hql := quN_len C
  have KX := Aside0.mk (fun (W : World) (A : Option Addr) (d : Nat) (hc : Kd.C (Kd.int .i64) W A (quN C).length (quN C)) => contains_any (d := d) hc (by omega) ch)
  have hL : (quN C).length ≤ 1000 := by omega
  have hmem := fun h => quN_mem (C := C) (ch := ch) h
  have HV : Aside0 (boundN C ch lane = if idxN ch (quN C) < 0 then -1 else if lane < 0 ∨ (lf C ch).f5 ≤ lane then -1 else if 0 < lane ∨ waitN C ch (lf C ch).f6 < 0 then (lf C ch).f8 else if waitN C ch (lf C ch).f6 + 1 < (lf C ch).f8 then waitN C ch (lf C ch).f6 + 1 else (lf C ch).f8) := ⟨rfl⟩
  have hwb := fun d => waitTo_bd C ch d (cycN C).toNat (by have := cycN_bd C lk; omega)
  replace hwb : ∀ d, -1000000 ≤ waitN C ch d ∧ waitN C ch d ≤ 4611686018427387904 := hwb
  generalize boundN C ch lane = res at HV ⊢
  generalize idxN ch (quN C) = at_ at HV KX hmem
  clear hX hg la lw hql
  have H1 : Aside0 ((w.alloc (.cells #[.int .i64 C.p, .int .i64 C.f, .slice A2 C.ws.length c2, .slice A3 C.ks.length c3, .slice A4 C.ac.length c4] 26)).heap[w.heap.size]? = some (.cells #[.int .i64 C.p, .int .i64 C.f, .slice A2 C.ws.length c2, .slice A3 C.ks.length c3, .slice A4 C.ac.length c4] 26 (0, 0)) ∧ Below w.heap.size w (w.alloc (.cells #[.int .i64 C.p, .int .i64 C.f, .slice A2 C.ws.length c2, .slice A3 C.ks.length c3, .slice A4 C.ac.length c4] 26))) := ⟨⟨blk_new _ _, below_alloc (Below.refl _ _) _⟩⟩
  have b0 := (blk_cell H1.out.1 0).trans (show _ = some (.int .i64 C.p) from rfl)
  have b1 := (blk_cell H1.out.1 1).trans (show _ = some (.int .i64 C.f) from rfl)
  have b2 := (blk_cell H1.out.1 2).trans (show _ = some (.slice A2 C.ws.length c2) from rfl)
  have b3 := (blk_cell H1.out.1 3).trans (show _ = some (.slice A3 C.ks.length c3) from rfl)
  have b4 := (blk_cell H1.out.1 4).trans (show _ = some (.slice A4 C.ac.length c4) from rfl)
  by_cases ha : at_ < 0
  · have d1 : decide (0 ≤ at_) = false := decide_eq_false (by omega)
    have HR : Aside0 (res = -1) := ⟨by rw [HV.out, if_pos ha]⟩
    clear HV ha hwb hmem
    generalize quN C = q at CQ KX hL
    go_enter Tryd.func15, Tryd.ntmps15
    go_wp2_with (first | (go_at_call 24; (with_reducible refine (CQ.out _ H1.out.2).mono ?_); rintro e w2 ⟨Bq, dq, rfl, hcq, hb⟩; have H2 := Aside0.mk (And.intro (blk_below H1.out.1 hb) (below_step H1.out.2 hb)); clear hb b0 b1 b2 b3 b4; have b0 := (blk_cell H2.out.1 0).trans (show _ = some (.int .i64 C.p) from rfl); have b1 := (blk_cell H2.out.1 1).trans (show _ = some (.int .i64 C.f) from rfl); have b2 := (blk_cell H2.out.1 2).trans (show _ = some (.slice A2 C.ws.length c2) from rfl); have b3 := (blk_cell H2.out.1 3).trans (show _ = some (.slice A3 C.ks.length c3) from rfl); have b4 := (blk_cell H2.out.1 4).trans (show _ = some (.slice A4 C.ac.length c4) from rfl); have HQ := Aside0.mk hcq; clear hcq) | (go_at_call 37; (with_reducible refine (KX.out _ _ _ HQ.out).mono ?_); rintro e w3 ⟨rfl, rfl⟩))
    go_ret
    exact ⟨by rw [HR.out]; rfl, H2.out.2⟩
  · have d1 : decide (0 ≤ at_) = true := decide_eq_true (by omega)
    obtain ⟨hc0, hc1⟩ := hmem (by omega)
    have HV2 := Aside0.mk (HV.out.trans (if_neg ha))
    clear HV ha hmem
    obtain ⟨cn, hcn⟩ : ∃ cn : Nat, (cn : Int) = ch := ⟨ch.toNat, by omega⟩
    have hcn1 : cn < C.ks.length := by omega
    have hlf : lf C ch = C.ks[cn] := by unfold lf; rw [show ch.toNat = cn by omega, List.getElem?_eq_getElem hcn1]; rfl
    rw [hlf] at HV2
    clear hlf
    have HCS := Aside0.mk (fun (W : World) (hb : Below w.heap.size w W) => at_T43 (Kd.C_below HX.out hb) ch hc0 hc1)
    have hrd : rd_T43 C.ks ch = C.ks[cn] := by rw [← hcn]; simp [rd_T43, hcn1]
    rw [hrd] at HCS
    clear hrd HX
    generalize C.ks[cn] = x at HV2 HCS
    clear hcn hcn1
    obtain ⟨x0, x1, x2, x3, x4, x5, x6, x7, x8, x9, x10⟩ := x
    simp only [] at HV2 HCS
    generalize quN C = q at CQ KX hL
    go_enter Tryd.func15, Tryd.ntmps15
    by_cases hl0 : lane < 0
    · have d2 : decide (lane < 0) = true := decide_eq_true hl0
      have HR : Aside0 (res = -1) := ⟨by rw [HV2.out, if_pos (Or.inl hl0)]⟩
      clear HV2 hl0 hwb
      go_wp2_with (first | (go_at_call 24; (with_reducible refine (CQ.out _ H1.out.2).mono ?_); rintro e w2 ⟨Bq, dq, rfl, hcq, hb⟩; have H2 := Aside0.mk (And.intro (blk_below H1.out.1 hb) (below_step H1.out.2 hb)); clear hb b0 b1 b2 b3 b4; have b0 := (blk_cell H2.out.1 0).trans (show _ = some (.int .i64 C.p) from rfl); have b1 := (blk_cell H2.out.1 1).trans (show _ = some (.int .i64 C.f) from rfl); have b2 := (blk_cell H2.out.1 2).trans (show _ = some (.slice A2 C.ws.length c2) from rfl); have b3 := (blk_cell H2.out.1 3).trans (show _ = some (.slice A3 C.ks.length c3) from rfl); have b4 := (blk_cell H2.out.1 4).trans (show _ = some (.slice A4 C.ac.length c4) from rfl); have HQ := Aside0.mk hcq; clear hcq; obtain ⟨ad, rfl, e0, e1, e2, e3, e4, e5, e6, e7, e8, e9, e10⟩ := HCS.out _ H2.out.2; (try simp only [] at e0 e1 e2 e3 e4 e5 e6 e7 e8 e9 e10)) | (go_at_call 37; (with_reducible refine (KX.out _ _ _ HQ.out).mono ?_); rintro e w3 ⟨rfl, rfl⟩))
      go_ret
      exact ⟨by rw [HR.out]; rfl, H2.out.2⟩
    · have d2 : decide (lane < 0) = false := decide_eq_false hl0
      by_cases hl1 : x5 ≤ lane
      · have d3 : decide (x5 ≤ lane) = true := decide_eq_true hl1
        have HR : Aside0 (res = -1) := ⟨by rw [HV2.out, if_pos (Or.inr hl1)]⟩
        clear HV2 hl0 hl1 hwb
        go_wp2_with (first | (go_at_call 24; (with_reducible refine (CQ.out _ H1.out.2).mono ?_); rintro e w2 ⟨Bq, dq, rfl, hcq, hb⟩; have H2 := Aside0.mk (And.intro (blk_below H1.out.1 hb) (below_step H1.out.2 hb)); clear hb b0 b1 b2 b3 b4; have b0 := (blk_cell H2.out.1 0).trans (show _ = some (.int .i64 C.p) from rfl); have b1 := (blk_cell H2.out.1 1).trans (show _ = some (.int .i64 C.f) from rfl); have b2 := (blk_cell H2.out.1 2).trans (show _ = some (.slice A2 C.ws.length c2) from rfl); have b3 := (blk_cell H2.out.1 3).trans (show _ = some (.slice A3 C.ks.length c3) from rfl); have b4 := (blk_cell H2.out.1 4).trans (show _ = some (.slice A4 C.ac.length c4) from rfl); have HQ := Aside0.mk hcq; clear hcq; obtain ⟨ad, rfl, e0, e1, e2, e3, e4, e5, e6, e7, e8, e9, e10⟩ := HCS.out _ H2.out.2; (try simp only [] at e0 e1 e2 e3 e4 e5 e6 e7 e8 e9 e10)) | (go_at_call 37; (with_reducible refine (KX.out _ _ _ HQ.out).mono ?_); rintro e w3 ⟨rfl, rfl⟩))
        go_ret
        exact ⟨by rw [HR.out]; rfl, H2.out.2⟩
      · have d3 : decide (x5 ≤ lane) = false := decide_eq_false hl1
        have HV3 := Aside0.mk (HV2.out.trans (if_neg (fun h => h.elim hl0 hl1)))
        clear HV2
        have CWd := Aside0.mk (CW.out x6)
        have hwd := hwb x6
        generalize waitN C ch x6 = wt at CWd HV3 hwd
        clear hwb CW
        obtain ⟨hwd0, hwd1⟩ := hwd
        go_upto_region 4 with (first | (go_at_call 24; (with_reducible refine (CQ.out _ H1.out.2).mono ?_); rintro e w2 ⟨Bq, dq, rfl, hcq, hb⟩; have H2 := Aside0.mk (And.intro (blk_below H1.out.1 hb) (below_step H1.out.2 hb)); clear hb b0 b1 b2 b3 b4; have b0 := (blk_cell H2.out.1 0).trans (show _ = some (.int .i64 C.p) from rfl); have b1 := (blk_cell H2.out.1 1).trans (show _ = some (.int .i64 C.f) from rfl); have b2 := (blk_cell H2.out.1 2).trans (show _ = some (.slice A2 C.ws.length c2) from rfl); have b3 := (blk_cell H2.out.1 3).trans (show _ = some (.slice A3 C.ks.length c3) from rfl); have b4 := (blk_cell H2.out.1 4).trans (show _ = some (.slice A4 C.ac.length c4) from rfl); have HQ := Aside0.mk hcq; clear hcq; obtain ⟨ad, rfl, e0, e1, e2, e3, e4, e5, e6, e7, e8, e9, e10⟩ := HCS.out _ H2.out.2; (try simp only [] at e0 e1 e2 e3 e4 e5 e6 e7 e8 e9 e10)) | (go_at_call 37; (with_reducible refine (KX.out _ _ _ HQ.out).mono ?_); rintro e w3 ⟨rfl, rfl⟩))
        have H5 : (w2.alloc (.cells #[.int .i64 x0, .int .i64 x1, .int .i64 x2, .int .i64 x3, .int .i64 x4, .int .i64 x5, .int .i64 x6, .int .i64 x7, .int .i64 x8, .int .i64 x9, .int .i64 x10] 43)).heap[w2.heap.size]? = some (.cells #[.int .i64 x0, .int .i64 x1, .int .i64 x2, .int .i64 x3, .int .i64 x4, .int .i64 x5, .int .i64 x6, .int .i64 x7, .int .i64 x8, .int .i64 x9, .int .i64 x10] 43 (0, 0)) ∧ (w2.alloc (.cells #[.int .i64 x0, .int .i64 x1, .int .i64 x2, .int .i64 x3, .int .i64 x4, .int .i64 x5, .int .i64 x6, .int .i64 x7, .int .i64 x8, .int .i64 x9, .int .i64 x10] 43)).heap[w.heap.size]? = some (.cells #[.int .i64 C.p, .int .i64 C.f, .slice A2 C.ws.length c2, .slice (some ad) C.ks.length c3, .slice A4 C.ac.length c4] 26 (0, 0)) ∧ Below w.heap.size w (w2.alloc (.cells #[.int .i64 x0, .int .i64 x1, .int .i64 x2, .int .i64 x3, .int .i64 x4, .int .i64 x5, .int .i64 x6, .int .i64 x7, .int .i64 x8, .int .i64 x9, .int .i64 x10] 43)) := ⟨blk_new _ _, blk_alloc H2.out.1 _, below_alloc H2.out.2 _⟩
        clear b0 b1 b2 b3 b4 e0 e1 e2 e3 e4 e5 e6 e7 e8 e9 e10 H2 H1 HQ
        revert H5
        generalize (w2.alloc (.cells #[.int .i64 x0, .int .i64 x1, .int .i64 x2, .int .i64 x3, .int .i64 x4, .int .i64 x5, .int .i64 x6, .int .i64 x7, .int .i64 x8, .int .i64 x9, .int .i64 x10] 43)) = w5
        generalize w2.heap.size = kb
        intro H5
        have H5A := Aside0.mk H5
        clear H5
        have b0 := (blk_cell H5A.out.2.1 0).trans (show _ = some (.int .i64 C.p) from rfl)
        have b1 := (blk_cell H5A.out.2.1 1).trans (show _ = some (.int .i64 C.f) from rfl)
        have b2 := (blk_cell H5A.out.2.1 2).trans (show _ = some (.slice A2 C.ws.length c2) from rfl)
        have b3 := (blk_cell H5A.out.2.1 3).trans (show _ = some (.slice (some ad) C.ks.length c3) from rfl)
        have b4 := (blk_cell H5A.out.2.1 4).trans (show _ = some (.slice A4 C.ac.length c4) from rfl)
        have c6 := (blk_cell H5A.out.1 6).trans (show _ = some (.int .i64 x6) from rfl)
        by_cases hp : 0 < lane
        · have d4 : decide (0 < lane) = true := decide_eq_true hp
          have HR : Aside0 (res = x8) := ⟨by rw [HV3.out, if_pos (Or.inl hp)]⟩
          clear HV3 hp hl0 hl1
          go_wp2_with (first | (go_at_call 17; (with_reducible refine (CWd.out _ H5A.out.2.2).mono ?_); rintro e w6 ⟨rfl, hb⟩; have c8 := (blk_cell (blk_below H5A.out.1 hb) 8).trans (show _ = some (.int .i64 x8) from rfl); have H6 := Aside0.mk (below_step H5A.out.2.2 hb); clear hb b0 b1 b2 b3 b4 c6))
          go_ret
          exact ⟨by rw [HR.out]; rfl, H6.out⟩
        · have d4 : decide (0 < lane) = false := decide_eq_false hp
          by_cases hw : wt < 0
          · have d5 : decide (wt < 0) = true := decide_eq_true hw
            have HR : Aside0 (res = x8) := ⟨by rw [HV3.out, if_pos (Or.inr hw)]⟩
            clear HV3 hp hl0 hl1 hw
            go_wp2_with (first | (go_at_call 17; (with_reducible refine (CWd.out _ H5A.out.2.2).mono ?_); rintro e w6 ⟨rfl, hb⟩; have c8 := (blk_cell (blk_below H5A.out.1 hb) 8).trans (show _ = some (.int .i64 x8) from rfl); have H6 := Aside0.mk (below_step H5A.out.2.2 hb); clear hb b0 b1 b2 b3 b4 c6))
            go_ret
            exact ⟨by rw [HR.out]; rfl, H6.out⟩
          · have d5 : decide (wt < 0) = false := decide_eq_false hw
            have HV4 := Aside0.mk (HV3.out.trans (if_neg (fun h => h.elim hp hw)))
            clear HV3 hp hl0 hl1 hw
            obtain ⟨mm, hmm⟩ : ∃ mm, (if wt + 1 < x8 then wt + 1 else x8) = mm := ⟨_, rfl⟩
            have HR : Aside0 (res = mm) := ⟨HV4.out.trans hmm⟩
            clear HV4
            go_wp2_with (first | (go_at_call 17; (with_reducible refine (CWd.out _ H5A.out.2.2).mono ?_); rintro e w6 ⟨rfl, hb⟩; have c8 := (blk_cell (blk_below H5A.out.1 hb) 8).trans (show _ = some (.int .i64 x8) from rfl); have H6 := Aside0.mk (below_step H5A.out.2.2 hb); clear hb b0 b1 b2 b3 b4 c6))
            go_ret
            exact ⟨by rw [HR.out]; rfl, H6.out⟩
end Go.Proofs.YtcebmgndniejcaaDoor.Wn
