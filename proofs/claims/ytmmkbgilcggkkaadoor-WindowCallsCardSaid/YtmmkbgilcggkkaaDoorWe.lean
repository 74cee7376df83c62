/- Layer 13 (window): Serves. -/
import Derived.Test.YtmmkbgilcggkkaaDoorWf
set_option linter.unusedVariables false
set_option linter.unusedSimpArgs false
namespace Go.Proofs.YtmmkbgilcggkkaaDoor.Wn
open Go Go.RowKit Go.Shelf Go.Proofs.YtmmkbgilcggkkaaDoorW.PrintWords Go.Proofs.YtmmkbgilcggkkaaDoorW.PrintLast Go.Proofs.YtmmkbgilcggkkaaDoorW.PrintMore Go.Proofs.YtmmkbgilcggkkaaDoor.Cz Go.Proofs.YtmmkbgilcggkkaaDoor.PWindowCalls Go.Proofs.YtmmkbgilcggkkaaDoor.Cf Go.Proofs.YtmmkbgilcggkkaaDoor.Sat
attribute [local go_sem] Tryd.underlying26 Tryd.underlying37
/-- The numbers of those of the first m channels that are queuing. -/
def qu (ks : List S37) : Nat → List Int
  | 0 => []
  | m + 1 => qu ks m ++ (match ks[m]? with | some x => if x.f0 = 1 then [(m : Int)] else [] | none => [])
theorem qu_yes {ks : List S37} {m : Nat} (h : m < ks.length) (hk : ks[m].f0 = 1) : qu ks (m + 1) = qu ks m ++ [(m : Int)] := by
  show qu ks m ++ _ = _
  rw [List.getElem?_eq_getElem h]
  simp only []
  rw [if_pos hk]
theorem qu_no {ks : List S37} {m : Nat} (h : m < ks.length) (hk : ks[m].f0 ≠ 1) : qu ks (m + 1) = qu ks m := by
  show qu ks m ++ _ = _
  rw [List.getElem?_eq_getElem h]
  simp only []
  rw [if_neg hk, List.append_nil]
theorem qu_len (ks : List S37) : ∀ m, (qu ks m).length ≤ m
  | 0 => Nat.le_refl _
  | m + 1 => by
    have := qu_len ks m
    show (qu ks m ++ _).length ≤ _
    rw [List.length_append]
    split
    · split <;> simp <;> omega
    · simp; omega
/-- The queuing channels. -/
def qs (C : Cfg) : List Int := qu C.ks C.ks.length
/-- The channel that the router serves. -/
def servesN (C : Cfg) (now : Int) : Option Int := if whoN C now = some (-1) then (if qs C = [] then none else some (rd (qs C) ((beforeN C (-1) now).tmod (qs C).length))) else none
/-- Serves' memory. -/
structure SS (w0 W : World) (v : Value) (q : List Int) (cfg : Array Value) : Prop where
  bg : W.heap[w0.heap.size]? = some (.cells cfg 26 (0, 0))
  r : (Kd.int .i64).R 3 W w0.heap.size (fun k => w0.heap.size ≤ k) v q
  bel : Below w0.heap.size w0 W
theorem SS.far {w0 W W' : World} {v : Value} {q : List Int} {cfg : Array Value} (h : SS w0 W v q cfg) (hb : Below W.heap.size W W') : SS w0 W' v q cfg := ⟨blk_below h.bg hb, Kd.R_below h.r hb, below_step h.bel hb⟩
theorem before_bd (C : Cfg) (o now : Int) : 0 ≤ beforeN C o now ∧ beforeN C o now ≤ 4611686018427387904 := cut_bd _
set_option maxHeartbeats 16000000 in
set_option maxRecDepth 100000 in
theorem serves_any {C : Cfg} {A2 A3 A4 : Option Addr} {c2 c3 c4 : Nat} {w : World} (hX : CX w C A2 c2 A3 c3 A4 c4) (hg : LG w) (lk : C.ks.length ≤ 1000) (la : C.ac.length ≤ 1000) (lw : C.ws.length ≤ 1000) (now : Int) :
    Calls Tryd.prog 19 #[.agg #[.int .i64 C.p, .int .i64 C.f, .slice A2 C.ws.length c2, .slice A3 C.ks.length c3, .slice A4 C.ac.length c4], .int .i64 now] w fun e w' => e = .returned (.tuple #[.int .i64 ((servesN C now).getD 0), .bool (servesN C now).isSome]) ∧ Below w.heap.size w w' := by
  have hb1 := below_alloc (Below.refl w.heap.size w) (.cells #[.int .i64 C.p, .int .i64 C.f, .slice A2 C.ws.length c2, .slice A3 C.ks.length c3, .slice A4 C.ac.length c4] 26)
  have HW := Aside0.mk (whose_any (hX.below hb1) (hg.below hb1) lk la lw now)
  have BN := Aside0.mk (fun (W : World) (hb : Below w.heap.size w W) => before_any (hX.below hb) (hg.below hb) lk la lw (-1) now)
  have HX := Aside0.mk hX.k
  have hbd := before_bd C (-1) now
  have hql := qu_len C.ks C.ks.length
  have HV : Aside0 (servesN C now = if whoN C now = some (-1) then (if qs C = [] then none else some (rd (qs C) ((beforeN C (-1) now).tmod (qs C).length))) else none) := ⟨rfl⟩
  generalize servesN C now = res at HV ⊢
  generalize beforeN C (-1) now = bf at BN HV hbd
  clear hX hg hb1
  obtain ⟨wh, hwh⟩ : ∃ wh, whoN C now = wh := ⟨_, rfl⟩
  rw [hwh] at HW HV
  clear hwh
  by_cases hr : wh = some (-1)
  · subst hr
    have HV2 : Aside0 (res = if qs C = [] then none else some (rd (qs C) (bf.tmod (qs C).length))) := ⟨by rw [HV.out, if_pos rfl]⟩
    clear HV
    have hop : (some (-1 : Int)).getD 0 = -1 := rfl
    have hos : (some (-1 : Int)).isSome = true := rfl
    rw [hop, hos] at HW
    clear hop hos
    go_enter Tryd.func19, Tryd.ntmps19
    go_wp2_with (first | (go_at_call 14; refine HW.out.mono ?_; rintro e w2 ⟨rfl, hb⟩; have hbk := blk_below (blk_new w _) hb; have b0 := (blk_cell hbk 0).trans (show _ = some (.int .i64 C.p) from rfl); have b1 := (blk_cell hbk 1).trans (show _ = some (.int .i64 C.f) from rfl); have b2 := (blk_cell hbk 2).trans (show _ = some (.slice A2 C.ws.length _) from rfl); have b3 := (blk_cell hbk 3).trans (show _ = some (.slice A3 C.ks.length _) from rfl); have b4 := (blk_cell hbk 4).trans (show _ = some (.slice A4 C.ac.length _) from rfl); have HB := Aside0.mk (below_step (below_alloc (Below.refl w.heap.size w) _) hb); have HBK := Aside0.mk hbk; clear hb hbk))
    have I1 : Aside0 (SS w w2 (.slice none 0 0) (qu C.ks 0) #[.int .i64 C.p, .int .i64 C.f, .slice A2 C.ws.length c2, .slice A3 C.ks.length c3, .slice A4 C.ac.length c4]) := ⟨⟨HBK.out, Kd.R_nil _ _ _ _ _, HB.out⟩⟩
    clear b0 b1 b2 b3 b4
    go_loopw [8, 26] (fun v8 v26 wr => ∃ j : Nat, v26 = .int .i64 j ∧ j ≤ C.ks.length ∧ Aside0 (SS w wr v8 (qu C.ks j) #[.int .i64 C.p, .int .i64 C.f, .slice A2 C.ws.length c2, .slice A3 C.ks.length c3, .slice A4 C.ac.length c4])) (fun _ v26 _ => C.ks.length - (intOf v26).toNat)
    case atStart => exact ⟨0, rfl, by omega, I1⟩
    case round =>
      clear I1
      rename_i gv8 gv26
      obtain ⟨j, rfl, hj, HI⟩ := hrel
      by_cases hlt : j < C.ks.length
      · have d1 : decide ((j : Int) < (C.ks.length : Int)) = true := decide_eq_true (by omega)
        have d1n : decide (j < C.ks.length) = true := decide_eq_true hlt
        have hcs := at_T37 (Kd.C_below HX.out HI.out.bel) (j : Int) (by omega) (by omega)
        rw [show rd_T37 C.ks (j : Int) = C.ks[j] by simp [rd_T37, hlt], Int.toNat_natCast] at hcs
        have HY := Aside0.mk (fun h => qu_yes (ks := C.ks) hlt h)
        have HN := Aside0.mk (fun h => qu_no (ks := C.ks) hlt h)
        have hjl := qu_len C.ks j
        generalize C.ks[j] = x at hcs HY HN
        obtain ⟨x0, x1, x2, x3, x4, x5, x6, x7, x8, x9, x10⟩ := x
        obtain ⟨ad, rfl, e0, e1, e2, e3, e4, e5, e6, e7, e8, e9, e10⟩ := hcs
        simp only [] at e0 e1 e2 e3 e4 e5 e6 e7 e8 e9 e10 HY HN
        have hj0 : 0 ≤ (j : Int) := by omega
        have hj1 : (j : Int) < C.ks.length := by omega
        have HI2 := Aside0.mk (HI.out.far (below_alloc (Below.refl wr.heap.size wr) (.cells #[.int .i64 x0, .int .i64 x1, .int .i64 x2, .int .i64 x3, .int .i64 x4, .int .i64 x5, .int .i64 x6, .int .i64 x7, .int .i64 x8, .int .i64 x9, .int .i64 x10] 37)))
        by_cases hk : x0 = 1
        · have q1 : decide (x0 = 1) = true := decide_eq_true hk
          have q2 : (x0 == 1) = true := beq_iff_eq.mpr hk
          have HYY := Aside0.mk (HY.out hk)
          clear hk
          have hx0 : (wr.alloc (.cells #[.int .i64 x0, .int .i64 x1, .int .i64 x2, .int .i64 x3, .int .i64 x4, .int .i64 x5, .int .i64 x6, .int .i64 x7, .int .i64 x8, .int .i64 x9, .int .i64 x10] 37)).cell? ⟨wr.heap.size, 0, none⟩ = some (.int .i64 x0) := (blk_cell (blk_new wr _) 0).trans rfl
          go_upto_region 8 with (first | fail)
          revert HI2 hx0
          generalize (wr.alloc (.cells #[.int .i64 x0, .int .i64 x1, .int .i64 x2, .int .i64 x3, .int .i64 x4, .int .i64 x5, .int .i64 x6, .int .i64 x7, .int .i64 x8, .int .i64 x9, .int .i64 x10] 37)) = w5
          generalize wr.heap.size = cb
          intro HI2 hx0
          go_wp2_with (first | ((with_reducible refine gate_builtin (b := .append) (xs := #[.tmp 34, .tmp 36]) rfl ?_); at_builtin; refine Kd.R_append (Kd.int .i64) (w0 := w) w.heap.size rfl (.tmp 34) (.tmp 36) 24 3 (.int .i64 0) 8 rfl Tryd.underlying24 info3 rfl (by decide) (by omega) _ (qu C.ks j) (j : Int) [.int .i64 j] (fun k => w.heap.size ≤ k) (fun _ => False) rfl rfl ?aP (fun _ hk => hk.elim) ?aF HI2.out.r HI2.out.bel ?aS ?aL ?_; (case aP => exact rfl); (case aF => exact (fun k hk => Nat.le_trans HI2.out.bel.size hk)); (case aS => exact HI2.out.bel.size); (case aL => omega); intro v9 w9 ho hb hg9 hat; have HI9 : Aside0 (SS w w9 v9 (qu C.ks j ++ [(j : Int)]) _) := ⟨blk_grown HI2.out.bg hg9 (Kd.R_ne HI2.out.r HI2.out.bg (by decide)), ho, hb⟩; clear ho hb hg9 hat))
          go_roundw
          case rel => exact ⟨j + 1, by go_num, by omega, by rw [HYY.out]; exact HI9⟩
          case measure => simp [intOf]; omega
        · have q1 : decide (x0 = 1) = false := decide_eq_false hk
          have q2 : (x0 == 1) = false := beq_eq_false_iff_ne.mpr hk
          have HNN := Aside0.mk (HN.out hk)
          clear hk
          have hx0 : (wr.alloc (.cells #[.int .i64 x0, .int .i64 x1, .int .i64 x2, .int .i64 x3, .int .i64 x4, .int .i64 x5, .int .i64 x6, .int .i64 x7, .int .i64 x8, .int .i64 x9, .int .i64 x10] 37)).cell? ⟨wr.heap.size, 0, none⟩ = some (.int .i64 x0) := (blk_cell (blk_new wr _) 0).trans rfl
          go_upto_region 8 with (first | fail)
          revert HI2 hx0
          generalize (wr.alloc (.cells #[.int .i64 x0, .int .i64 x1, .int .i64 x2, .int .i64 x3, .int .i64 x4, .int .i64 x5, .int .i64 x6, .int .i64 x7, .int .i64 x8, .int .i64 x9, .int .i64 x10] 37)) = w5
          generalize wr.heap.size = cb
          intro HI2 hx0
          go_wp2
          go_roundw
          case rel => exact ⟨j + 1, by go_num, by omega, by rw [HNN.out]; exact HI2⟩
          case measure => simp [intOf]; omega
      · have d1 : decide ((j : Int) < (C.ks.length : Int)) = false := decide_eq_false (by omega)
        have d1n : decide (j < C.ks.length) = false := decide_eq_false hlt
        obtain rfl : j = C.ks.length := by omega
        have hqq : qu C.ks C.ks.length = qs C := rfl
        rw [hqq] at HI hql
        clear hqq
        obtain ⟨B, d, rfl, hd, hcq⟩ := Kd.R_reads HI.out.r
        have b0 := (blk_cell HI.out.bg 0).trans (show _ = some (.int .i64 C.p) from rfl)
        have b1 := (blk_cell HI.out.bg 1).trans (show _ = some (.int .i64 C.f) from rfl)
        have b2 := (blk_cell HI.out.bg 2).trans (show _ = some (.slice A2 C.ws.length c2) from rfl)
        have b3 := (blk_cell HI.out.bg 3).trans (show _ = some (.slice A3 C.ks.length c3) from rfl)
        have b4 := (blk_cell HI.out.bg 4).trans (show _ = some (.slice A4 C.ac.length c4) from rfl)
        generalize qs C = q at HI HV2 hql hd hcq
        have HCQ := Aside0.mk hcq
        clear hcq
        by_cases hq : q = []
        · subst hq
          have HR : Aside0 (res = none) := ⟨by rw [HV2.out, if_pos rfl]⟩
          simp only [List.length_nil]
          go_wp2
          refine bodyPost_ret (results_tmp2 rfl _ _ _) rfl ?_
          rw [HR.out]
          exact ⟨rfl, HI.out.bel⟩
        · have hR : res = some (rd q (bf.tmod q.length)) := by rw [HV2.out, if_neg hq]
          have hql0 : 0 < q.length := List.length_pos_iff.2 hq
          have HR := Aside0.mk hR
          clear hR hq
          obtain ⟨n, hn⟩ : ∃ n, q.length = n := ⟨_, rfl⟩
          rw [hn] at hql0 hql hd HCQ HR ⊢
          clear hn
          have hnz : (n : Int) ≠ 0 := by omega
          have g1 : decide ((n : Int) = 0) = false := decide_eq_false hnz
          have g2 : ((n : Int) == 0) = false := beq_eq_false_iff_ne.mpr hnz
          have g3 : decide (n = 0) = false := decide_eq_false (by omega)
          have g4 : (n == 0) = false := beq_eq_false_iff_ne.mpr (by omega)
          have i0 : 0 ≤ bf.tmod n := Int.tmod_nonneg _ hbd.1
          have i1 : bf.tmod n < n := Int.tmod_lt_of_pos _ (by omega)
          generalize hi : bf.tmod (n : Int) = i at i0 i1 HR
          go_wp2_with (first | (go_at_call 13; (with_reducible refine (BN.out _ HI.out.bel).mono ?_); rintro e w3 ⟨rfl, hb⟩; obtain ⟨ad, rfl, hcell0⟩ := Kd.at_int (Kd.C_below HCQ.out hb) i i0 i1; have HB3 := Aside0.mk (below_step HI.out.bel hb); clear hb))
          refine bodyPost_ret (results_tmp2 rfl _ _ _) rfl ?_
          rw [HR.out]
          exact ⟨rfl, HB3.out⟩
  · have HR : Aside0 (res = none) := ⟨by rw [HV.out, if_neg hr]⟩
    clear HV
    cases wh with
    | none =>
      have hos : (none : Option Int).isSome = false := rfl
      rw [hos] at HW
      clear hos
      go_enter Tryd.func19, Tryd.ntmps19
      go_wp2_with (first | (go_at_call 14; refine HW.out.mono ?_; rintro e w2 ⟨rfl, hb⟩; have hbk := blk_below (blk_new w _) hb; have b0 := (blk_cell hbk 0).trans (show _ = some (.int .i64 C.p) from rfl); have b1 := (blk_cell hbk 1).trans (show _ = some (.int .i64 C.f) from rfl); have b2 := (blk_cell hbk 2).trans (show _ = some (.slice A2 C.ws.length _) from rfl); have b3 := (blk_cell hbk 3).trans (show _ = some (.slice A3 C.ks.length _) from rfl); have b4 := (blk_cell hbk 4).trans (show _ = some (.slice A4 C.ac.length _) from rfl); have HB := Aside0.mk (below_step (below_alloc (Below.refl w.heap.size w) _) hb); have HBK := Aside0.mk hbk; clear hb hbk))
      refine bodyPost_ret (results_tmp2 rfl _ _ _) rfl ?_
      rw [HR.out]
      exact ⟨rfl, HB.out⟩
    | some r =>
      have hrn : r ≠ -1 := fun h => hr (by rw [h])
      have d1 : decide (r = -1) = false := decide_eq_false hrn
      have d2 : (r == -1) = false := beq_eq_false_iff_ne.mpr hrn
      have hop : (some r).getD 0 = r := rfl
      have hos : (some r).isSome = true := rfl
      rw [hop, hos] at HW
      clear hop hos hr hrn
      go_enter Tryd.func19, Tryd.ntmps19
      go_wp2_with (first | (go_at_call 14; refine HW.out.mono ?_; rintro e w2 ⟨rfl, hb⟩; have hbk := blk_below (blk_new w _) hb; have b0 := (blk_cell hbk 0).trans (show _ = some (.int .i64 C.p) from rfl); have b1 := (blk_cell hbk 1).trans (show _ = some (.int .i64 C.f) from rfl); have b2 := (blk_cell hbk 2).trans (show _ = some (.slice A2 C.ws.length _) from rfl); have b3 := (blk_cell hbk 3).trans (show _ = some (.slice A3 C.ks.length _) from rfl); have b4 := (blk_cell hbk 4).trans (show _ = some (.slice A4 C.ac.length _) from rfl); have HB := Aside0.mk (below_step (below_alloc (Below.refl w.heap.size w) _) hb); have HBK := Aside0.mk hbk; clear hb hbk))
      refine bodyPost_ret (results_tmp2 rfl _ _ _) rfl ?_
      rw [HR.out]
      exact ⟨rfl, HB.out⟩
end Go.Proofs.YtmmkbgilcggkkaaDoor.Wn
