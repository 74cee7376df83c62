/- WireReads: what is read of any bytes, and what is left, or why there is none, is what the document says. -/
import Derived.Test.YtjgianmcllkagaaWiOpens
set_option linter.unusedVariables false
set_option linter.unusedSimpArgs false
namespace Go.Proofs.Ytjgianmcllkagaa.Wi
open Go.RowKit Go.Proofs.YtjgianmcllkagaaW.PrintWords Go.Proofs.YtjgianmcllkagaaW.PrintLast Go.Proofs.YtjgianmcllkagaaW.PrintMore
attribute [local go_sem] max2_int min2_int max_two min_two max_three min_three max_four min_four Try.underlying30
/-- Both readers stand alike. -/
structure Sd (w0 W : World) (g q : Nat) (A : Option Addr) (c : Nat) (r : Rd) : Prop where
  rd : RD W g r
  blk : W.heap[q]? = some (.cells #[.slice A r.b.length c, .int .i64 r.e] 30 (0, 0))
  ci : CI .u8 w0 A c r.b
  bel : Below w0.heap.size w0 W
  hq : w0.heap.size ≤ q
  hg : w0.heap.size ≤ g
theorem Sd.far {w0 W W' : World} {g q : Nat} {A : Option Addr} {c : Nat} {r : Rd} (h : Sd w0 W g q A c r) (hb : Below W.heap.size W W') : Sd w0 W' g q A c r := ⟨h.rd.far hb, blk_below h.blk hb, h.ci, below_step h.bel hb, h.hq, h.hg⟩
theorem Sd.ne {w0 W : World} {g q : Nat} {A : Option Addr} {c : Nat} {r : Rd} (h : Sd w0 W g q A c r) : q ≠ g := by
  obtain ⟨cells, h2⟩ := h.rd.blk
  exact blk_ne h.blk h2 (by decide)
/-- The document's reader goes on. -/
theorem Sd.put {w0 W : World} {g q : Nat} {A A' : Option Addr} {c c' : Nat} {r r2 : Rd} (h : Sd w0 W g q A c r) (h2 : CI .u8 w0 A' c' r2.b) :
    RD ((W.setCell ⟨q, 0, none⟩ (.slice A' r2.b.length c')).setCell ⟨q, 1, none⟩ (.int .i64 r2.e)) g r ∧ ((W.setCell ⟨q, 0, none⟩ (.slice A' r2.b.length c')).setCell ⟨q, 1, none⟩ (.int .i64 r2.e)).heap[q]? = some (.cells #[.slice A' r2.b.length c', .int .i64 r2.e] 30 (0, 0)) ∧ Below w0.heap.size w0 ((W.setCell ⟨q, 0, none⟩ (.slice A' r2.b.length c')).setCell ⟨q, 1, none⟩ (.int .i64 r2.e)) := by
  have b2 := blk_put h.blk 0 (.slice A' r2.b.length c') rfl
  refine ⟨(h.rd.kept h.blk (grown_set W q 0 _) (by decide) (by decide)).kept b2 (grown_set _ q 1 _) (by decide) (by decide), blk_put b2 1 _ rfl, below_set (below_set h.bel h.hq) h.hq⟩
/-- Another block of the document's readers is filled. -/
theorem Sd.other {w0 W : World} {g q b : Nat} {A : Option Addr} {c : Nat} {r : Rd} {u0 u1 : Value} (h : Sd w0 W g q A c r) (hb : W.heap[b]? = some (.cells #[u0, u1] 30 (0, 0))) (hne : q ≠ b) (hle : w0.heap.size ≤ b) (x y : Value) :
    Sd w0 ((W.setCell ⟨b, 0, none⟩ x).setCell ⟨b, 1, none⟩ y) g q A c r ∧ ((W.setCell ⟨b, 0, none⟩ x).setCell ⟨b, 1, none⟩ y).heap[b]? = some (.cells #[x, y] 30 (0, 0)) := by
  have b2 := blk_put hb 0 x rfl
  refine ⟨⟨(h.rd.kept hb (grown_set W b 0 _) (by decide) (by decide)).kept b2 (grown_set _ b 1 _) (by decide) (by decide), ?_, h.ci, below_set (below_set h.bel hle) hle, h.hq, h.hg⟩, blk_put b2 1 _ rfl⟩
  exact blk_far (blk_far h.blk (p := ⟨b, 0, none⟩) hne _) (p := ⟨b, 1, none⟩) hne _
set_option maxHeartbeats 8000000 in
theorem wireReads_any (A : Option Addr) (m c : Nat) (xs : List Int) (hn : m = xs.length) (hl : xs.length ≤ maxLen) (AL : Option Addr) (mL cL : Nat) (L : List Int) (hnL : mL = L.length) (hlL : L.length ≤ maxLen) (w : World) (h : CI .u8 w A c xs) (hf : WF xs) (hL : CI .i64 w AL cL L) :
    Calls Try.prog 3 #[.slice A m c, .slice AL mL cL] w fun e w' => e = .returned (.bool true) ∧ Below w.heap.size w w' := by
  subst hn hnL
  obtain ⟨ys, h1, h2, h3, h4⟩ := few_ci h hf hl
  have HF := Aside0.mk h4
  have HC := Aside0.mk h1
  have RA := Aside0.mk (fun w (hc : CI .u8 w A c ys) => read_any hc h2 (by omega))
  have HL := Aside0.mk hL
  have hL0 : L.length ≤ 9223372036854775807 := by simpa [maxLen] using hlL
  clear h hf hl h4 h1 h2 hL hlL
  go_enter Try.func3, Try.ntmps3
  go_wp2_with (first | (go_at_call 9; refine (lives_any _).mono ?_; rintro e w1 ⟨rfl, hb⟩; have HB := Aside0.mk hb; clear hb) | (go_at_call 10; refine (HF.out _ HB.out).mono ?_; rintro e w' ⟨rfl, rfl⟩) | (go_at_call 11; refine (RA.out _ (HC.out.below HB.out)).mono ?_; rintro e w2 ⟨g, rfl, hr, hb, hg⟩; have HR0 := Aside0.mk hr; have HG := Aside0.mk (Nat.le_trans HB.out.size hg); replace HB := Aside0.mk (below_step HB.out hb); clear hr hb hg RA))
  have q0 : Sd w (w2.alloc (.cells #[.slice A ys.length c, .int .i64 0] 30)) g w2.heap.size A c ⟨ys, 0⟩ := ⟨HR0.out.far (below_alloc (Below.refl _ _) _), blk_new _ _, HC.out, below_alloc HB.out _, HB.out.size, HG.out⟩
  clear HR0 HG HB HC HF
  revert q0
  generalize (w2.alloc (.cells #[.slice A ys.length c, .int .i64 0] 30)) = w3
  generalize w2.heap.size = q
  intro q0
  replace q0 := Aside0.mk q0
  go_loopw [7] (fun v7 wr => ∃ (k : Nat) (r : Rd) (A' : Option Addr) (c' : Nat), k ≤ L.length ∧ k ≤ 60 ∧ v7 = .int .i64 k ∧ Aside0 (Sd w wr g q A' c' r)) (fun v7 _ => L.length - (intOf v7).toNat)
  case atStart => exact ⟨0, ⟨ys, 0⟩, A, c, by omega, by omega, rfl, ⟨q0.out⟩⟩
  case round =>
    obtain ⟨k, r, A', c', hk, hk60, rfl, HH⟩ := hrel
    clear q0
    by_cases hlt : k < L.length
    · have hd1 : decide ((k : Int) < (L.length : Int)) = true := decide_eq_true (by omega)
      have hdn : decide (k < L.length) = true := decide_eq_true hlt
      by_cases hlt60 : k < 60
      · have hd2 : decide ((k : Int) < 60) = true := decide_eq_true (by omega)
        have hdn2 : decide (k < 60) = true := decide_eq_true hlt60
        obtain ⟨ad, rfl, hcell0⟩ := HL.out.at_ hlt
        have CL : ∀ w1, Below w.heap.size w w1 → w1.cell? (ad.add k) = some (.int .i64 (rd L k)) := fun w1 hb => by
          obtain ⟨ad', e, hc⟩ := (HL.out.below hb).at_ hlt
          cases e
          exact hc
        have hk0 : 0 ≤ (k : Int) := by omega
        have hk1 : (k : Int) < L.length := by omega
        clear hcell0
        generalize rd L k = n at CL
        have CL := Aside0.mk CL
        go_upto_region 8 with (first | fail)
        have P := Aside0.mk (HH.out.far (below_drew (Below.refl _ _)))
        clear HH
        have RN := Aside0.mk (fun w1 (hb : Below w.heap.size w w1) => rNext_any P.out.ci hb P.out.rd.wf n)
        have NQ : q ≠ wr.heap.size := fun e => by
          have : q < wr.heap.size := blk_lt P.out.blk
          omega
        go_region_held3 (fun w' => w'.cell? ⟨q, 0, none⟩ = some (.slice A' r.b.length c') ∧ w'.cell? ⟨q, 1, none⟩ = some (.int .i64 r.e) ∧ w'.cell? (ad.add k) = some (.int .i64 n)) (first | exact ⟨(blk_cell P.out.blk 0).trans rfl, (blk_cell P.out.blk 1).trans rfl, CL.out _ P.out.bel⟩ | exact ⟨(blk_cell P2.out.blk 0).trans rfl, (blk_cell P2.out.blk 1).trans rfl, CL.out _ P2.out.bel⟩ | exact ⟨(blk_cell (blk_alloc P.out.blk _) 0).trans rfl, (blk_cell (blk_alloc P.out.blk _) 1).trans rfl, CL.out _ (below_alloc P.out.bel _)⟩ | exact ⟨(blk_cell (blk_alloc P2.out.blk _) 0).trans rfl, (blk_cell (blk_alloc P2.out.blk _) 1).trans rfl, CL.out _ (below_alloc P2.out.bel _)⟩ | exact ⟨(blk_cell (blk_far (blk_far P2.out.blk (p := ⟨wr.heap.size, 0, none⟩) NQ _) (p := ⟨wr.heap.size, 1, none⟩) NQ _) 0).trans rfl, (blk_cell (blk_far (blk_far P2.out.blk (p := ⟨wr.heap.size, 0, none⟩) NQ _) (p := ⟨wr.heap.size, 1, none⟩) NQ _) 1).trans rfl, CL.out _ (below_set (below_set P2.out.bel P.out.bel.size) P.out.bel.size)⟩ | go_keep) (first | (go_at_call 12; refine (RN.out _ P.out.bel).mono ?_; rintro e w4 ⟨A2, c2, rfl, hci, hb⟩; have P2 := Aside0.mk (P.out.far hb); have HCI := Aside0.mk hci; clear hb hci) | (go_at_call 12; refine (RN.out _ (below_alloc P.out.bel _)).mono ?_; rintro e w4 ⟨A2, c2, rfl, hci, hb⟩; have P2 := Aside0.mk ((P.out.far (below_alloc (Below.refl _ _) _)).far hb); have hq8 : w4.heap[wr.heap.size]? = some (.cells #[.slice none 0 0, .int .i64 0] 30 (0, 0)) := blk_below (blk_new wr.drew _) hb; have q80 : w4.cell? ⟨wr.heap.size, 0, none⟩ = some (.slice none 0 0) := (blk_cell hq8 0).trans rfl; have q81 : w4.cell? ⟨wr.heap.size, 1, none⟩ = some (.int .i64 0) := (blk_cell hq8 1).trans rfl; have q82 := blk_frozen hq8 0; have q83 := blk_frozen hq8 1; have HQ8 := Aside0.mk hq8; clear hq8; have HCI := Aside0.mk hci; clear hb hci))
        · have s5 : Sd w (w4.alloc (.cells #[.slice A2 (next r n).b.length c2, .int .i64 (next r n).e] 30)) g q A' c' r := P2.out.far (below_alloc (Below.refl _ _) _)
          have b8 := blk_new w4 (.cells #[.slice A2 (next r n).b.length c2, .int .i64 (next r n).e] 30)
          clear P P2 RN NQ
          rename_i hHeld
          clear hHeld
          revert s5 b8
          generalize (w4.alloc (.cells #[.slice A2 (next r n).b.length c2, .int .i64 (next r n).e] 30)) = w5
          generalize w4.heap.size = q8
          intro s5 b8
          have c80 : w5.cell? ⟨q8, 0, none⟩ = some (.slice A2 (next r n).b.length c2) := (blk_cell b8 0).trans rfl
          have c81 : w5.cell? ⟨q8, 1, none⟩ = some (.int .i64 (next r n).e) := (blk_cell b8 1).trans rfl
          have cq0 : w5.cell? ⟨q, 0, none⟩ = some (.slice A' r.b.length c') := (blk_cell s5.blk 0).trans rfl
          have cq1 : w5.cell? ⟨q, 1, none⟩ = some (.int .i64 r.e) := (blk_cell s5.blk 1).trans rfl
          have fq0 := blk_frozen s5.blk 0
          have fq1 := blk_frozen s5.blk 1
          have S5 := Aside0.mk s5
          clear s5 b8
          go_upto_region 10 with (first | fail)
          obtain ⟨r6, b6, e6⟩ := S5.out.put HCI.out
          have hq := Aside0.mk S5.out.hq
          have hg := Aside0.mk S5.out.hg
          clear c80 c81 cq0 cq1 fq0 fq1 S5
          revert r6 b6 e6
          generalize ((w5.setCell ⟨q, 0, none⟩ (.slice A2 (next r n).b.length c2)).setCell ⟨q, 1, none⟩ (.int .i64 (next r n).e)) = w6
          intro r6 b6 e6
          have R6 := Aside0.mk r6
          have B6 := Aside0.mk b6
          have E6 := Aside0.mk e6
          have NQG := Aside0.mk (show q ≠ g by obtain ⟨cells, h2⟩ := r6.blk; exact blk_ne b6 h2 (by decide))
          clear r6 b6 e6
          go_region_held3 (fun w' => w'.cell? ⟨q, 0, none⟩ = some (.slice A2 (next r n).b.length c2) ∧ w'.cell? ⟨q, 1, none⟩ = some (.int .i64 (next r n).e) ∧ w'.cell? (ad.add k) = some (.int .i64 n)) (first | exact ⟨(blk_cell B6.out 0).trans rfl, (blk_cell B6.out 1).trans rfl, CL.out _ (below_drew E6.out)⟩ | exact ⟨(blk_cell F.out.blk 0).trans rfl, (blk_cell F.out.blk 1).trans rfl, CL.out _ F.out.bel⟩) (first | (go_at_call 13; refine (next_any R6.out.drew n).mono ?_; rintro e w7 ⟨rfl, hr, hg2⟩; have F := Aside0.mk (Sd.mk hr (blk_grown (blk_drew B6.out) hg2 (fun e => NQG.out (Option.some.inj e))) HCI.out (below_grown (below_drew E6.out) hg2 (fun k hk => by cases hk; exact hg.out)) hq.out hg.out); clear hr hg2) | (go_at_call 14; refine (err_any F.out.rd).mono ?_; rintro e w' ⟨rfl, rfl⟩) | (go_at_call 15; refine (left_any F.out.rd).mono ?_; rintro e w' ⟨rfl, rfl⟩) | (go_at_call 16; refine (end_any F.out.rd).mono ?_; rintro e w' ⟨rfl, rfl⟩) | (go_at_call 17; refine (rEnd_any (next r n) _).mono ?_; rintro e w8 ⟨rfl, hb⟩; have F := Aside0.mk (F.out.far hb); clear hb))
          all_goals (go_wp2; go_roundw; (case rel => exact ⟨k + 1, next r n, A2, c2, by omega, by omega, by go_num, ⟨F.out⟩⟩); (case measure => simp [intOf]; omega))
        · obtain ⟨s5, b8⟩ := Sd.other P2.out HQ8.out NQ P.out.bel.size (.slice A2 (next r n).b.length c2) (.int .i64 (next r n).e)
          clear P P2 RN NQ q80 q81 q82 q83 HQ8
          rename_i hHeld
          clear hHeld
          revert s5 b8
          generalize ((w4.setCell ⟨wr.heap.size, 0, none⟩ (.slice A2 (next r n).b.length c2)).setCell ⟨wr.heap.size, 1, none⟩ (.int .i64 (next r n).e)) = w5
          generalize wr.heap.size = q8
          intro s5 b8
          have c80 : w5.cell? ⟨q8, 0, none⟩ = some (.slice A2 (next r n).b.length c2) := (blk_cell b8 0).trans rfl
          have c81 : w5.cell? ⟨q8, 1, none⟩ = some (.int .i64 (next r n).e) := (blk_cell b8 1).trans rfl
          have cq0 : w5.cell? ⟨q, 0, none⟩ = some (.slice A' r.b.length c') := (blk_cell s5.blk 0).trans rfl
          have cq1 : w5.cell? ⟨q, 1, none⟩ = some (.int .i64 r.e) := (blk_cell s5.blk 1).trans rfl
          have fq0 := blk_frozen s5.blk 0
          have fq1 := blk_frozen s5.blk 1
          have S5 := Aside0.mk s5
          clear s5 b8
          go_upto_region 10 with (first | fail)
          obtain ⟨r6, b6, e6⟩ := S5.out.put HCI.out
          have hq := Aside0.mk S5.out.hq
          have hg := Aside0.mk S5.out.hg
          clear c80 c81 cq0 cq1 fq0 fq1 S5
          revert r6 b6 e6
          generalize ((w5.setCell ⟨q, 0, none⟩ (.slice A2 (next r n).b.length c2)).setCell ⟨q, 1, none⟩ (.int .i64 (next r n).e)) = w6
          intro r6 b6 e6
          have R6 := Aside0.mk r6
          have B6 := Aside0.mk b6
          have E6 := Aside0.mk e6
          have NQG := Aside0.mk (show q ≠ g by obtain ⟨cells, h2⟩ := r6.blk; exact blk_ne b6 h2 (by decide))
          clear r6 b6 e6
          go_region_held3 (fun w' => w'.cell? ⟨q, 0, none⟩ = some (.slice A2 (next r n).b.length c2) ∧ w'.cell? ⟨q, 1, none⟩ = some (.int .i64 (next r n).e) ∧ w'.cell? (ad.add k) = some (.int .i64 n)) (first | exact ⟨(blk_cell B6.out 0).trans rfl, (blk_cell B6.out 1).trans rfl, CL.out _ (below_drew E6.out)⟩ | exact ⟨(blk_cell F.out.blk 0).trans rfl, (blk_cell F.out.blk 1).trans rfl, CL.out _ F.out.bel⟩) (first | (go_at_call 13; refine (next_any R6.out.drew n).mono ?_; rintro e w7 ⟨rfl, hr, hg2⟩; have F := Aside0.mk (Sd.mk hr (blk_grown (blk_drew B6.out) hg2 (fun e => NQG.out (Option.some.inj e))) HCI.out (below_grown (below_drew E6.out) hg2 (fun k hk => by cases hk; exact hg.out)) hq.out hg.out); clear hr hg2) | (go_at_call 14; refine (err_any F.out.rd).mono ?_; rintro e w' ⟨rfl, rfl⟩) | (go_at_call 15; refine (left_any F.out.rd).mono ?_; rintro e w' ⟨rfl, rfl⟩) | (go_at_call 16; refine (end_any F.out.rd).mono ?_; rintro e w' ⟨rfl, rfl⟩) | (go_at_call 17; refine (rEnd_any (next r n) _).mono ?_; rintro e w8 ⟨rfl, hb⟩; have F := Aside0.mk (F.out.far hb); clear hb))
          all_goals (go_wp2; go_roundw; (case rel => exact ⟨k + 1, next r n, A2, c2, by omega, by omega, by go_num, ⟨F.out⟩⟩); (case measure => simp [intOf]; omega))
      · have hd2 : decide ((k : Int) < 60) = false := decide_eq_false (by omega)
        have hdn2 : decide (k < 60) = false := decide_eq_false hlt60
        go_wp2
        go_ret
        exact ⟨rfl, HH.out.bel⟩
    · have hd1 : decide ((k : Int) < (L.length : Int)) = false := decide_eq_false (by omega)
      have hdn : decide (k < L.length) = false := decide_eq_false hlt
      go_wp2
      go_ret
      exact ⟨rfl, HH.out.bel⟩
end Go.Proofs.Ytjgianmcllkagaa.Wi
