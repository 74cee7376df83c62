/- The reference's New, Take, Wait, and a step's kind. -/
import Derived.Test.YtpjjienjfbimjaaBkRef
set_option linter.unusedVariables false
set_option linter.unusedSimpArgs false
namespace Go.Proofs.Ytpjjienjfbimjaa.Bk
open Go.RowKit Go.Proofs.YtpjjienjfbimjaaW.PrintWords Go.Proofs.YtpjjienjfbimjaaW.PrintLast Go.Proofs.YtpjjienjfbimjaaW.PrintMore Go.Proofs.Ytpjjienjfbimjaa.Sat
attribute [local go_sem] Try.underlying41 Try.underlying37 max2_int min2_int max_two min_two max_three min_three max_four min_four
def RB (W : World) (g : Nat) (B : Bk) : Prop := W.heap[g]? = some (.cells #[.int .i64 B.rate, .int .i64 B.cap, .int .i64 B.tok, .int .i64 B.rnd] 41 (0, 0))
theorem RB.below {W W' : World} {g : Nat} {B : Bk} (h : RB W g B) (hb : Below W.heap.size W W') : RB W' g B := (hb.block g (blk_lt h)).trans h
theorem put4 {W : World} {g : Nat} {a b c d x y z v : Value} {t : TypeId} (h : W.heap[g]? = some (.cells #[a, b, c, d] t (0, 0))) :
    ((((W.setCell ⟨g, 0, none⟩ x).setCell ⟨g, 1, none⟩ y).setCell ⟨g, 2, none⟩ z).setCell ⟨g, 3, none⟩ v).heap[g]? = some (.cells #[x, y, z, v] t (0, 0)) := by
  refine blk_put (cs := #[x, y, z, d]) ?_ 3 _ rfl
  refine blk_put (cs := #[x, y, c, d]) ?_ 2 _ rfl
  refine blk_put (cs := #[x, b, c, d]) ?_ 1 _ rfl
  exact blk_put h 0 _ rfl
theorem far4 {W : World} {g g' : Nat} {cs : Array Value} {x y z v : Value} {t : TypeId} (h : W.heap[g]? = some (.cells cs t (0, 0))) (hne : g ≠ g') :
    ((((W.setCell ⟨g', 0, none⟩ x).setCell ⟨g', 1, none⟩ y).setCell ⟨g', 2, none⟩ z).setCell ⟨g', 3, none⟩ v).heap[g]? = some (.cells cs t (0, 0)) :=
  blk_far (blk_far (blk_far (blk_far h hne _) hne _) hne _) hne _
theorem rNew_any (rate cap : Int) (w : World) : Calls Try.prog 18 #[.int .i64 rate, .int .i64 cap] w fun e w' => e = .returned (.agg #[.int .i64 (make rate cap).rate, .int .i64 (make rate cap).cap, .int .i64 (make rate cap).tok, .int .i64 (make rate cap).rnd]) ∧ Below w.heap.size w w' := by
  obtain ⟨a, ha⟩ : ∃ a : Int, (if rate < 0 then 0 else rate) = a := ⟨_, rfl⟩
  obtain ⟨b, hb⟩ : ∃ b : Int, (if 64 < a then 64 else a) = b := ⟨_, rfl⟩
  obtain ⟨c, hc⟩ : ∃ c : Int, (if cap < 1 then 1 else cap) = c := ⟨_, rfl⟩
  obtain ⟨d, hd⟩ : ∃ d : Int, (if 64 < c then 64 else c) = d := ⟨_, rfl⟩
  have e : make rate cap = ⟨b, d, d, 0⟩ := by
    have e1 : b = min (max rate 0) 64 := by
      rw [← hb, ← ha]
      split <;> split <;> omega
    have e2 : d = min (max cap 1) 64 := by
      rw [← hd, ← hc]
      split <;> split <;> omega
    unfold make
    rw [e1, e2]
  rw [e]
  clear e
  have b1 : (w.alloc (.cells #[.int .i64 0, .int .i64 0, .int .i64 0, .int .i64 0] 41)).heap[w.heap.size]? = some (.cells #[.int .i64 0, .int .i64 0, .int .i64 0, .int .i64 0] 41 (0, 0)) := by simpa using heap_alloc_new w _
  have B1 := Aside0.mk b1
  clear b1
  go_enter Try.func18, Try.ntmps18
  go_wp2
  refine bodyPost_ret (results_cell_row rfl _ _ w.heap.size 41 #[.int .i64 b, .int .i64 d, .int .i64 d, .int .i64 0] (0, 0) _ rfl ?hheap Try.underlying41 rfl (by kernel_rfl)) rfl ?_
  case hheap => simpa using heap_alloc_new w _
  refine ⟨rfl, ?_⟩
  exact below_alloc (Below.refl _ _) _
theorem ret_take {C D : Bk} {b b' : Bool} (h : D = C) (h' : b = b') : Ending.returned (.tuple #[.agg #[.int .i64 C.rate, .int .i64 C.cap, .int .i64 C.tok, .int .i64 C.rnd], .bool b']) = .returned (.tuple #[.agg #[.int .i64 D.rate, .int .i64 D.cap, .int .i64 D.tok, .int .i64 D.rnd], .bool b]) := by rw [h, h']
set_option maxHeartbeats 1000000 in
set_option maxRecDepth 100000 in
theorem rTake_any {B : Bk} (ok : B.Ok) (r : Int) (w : World) : Calls Try.prog 20 #[.agg #[.int .i64 B.rate, .int .i64 B.cap, .int .i64 B.tok, .int .i64 B.rnd], .int .i64 r] w fun e w' => e = .returned (.tuple #[.agg #[.int .i64 (take B r).rate, .int .i64 (take B r).cap, .int .i64 (take B r).tok, .int .i64 (take B r).rnd], .bool (took B r)]) ∧ Below w.heap.size w w' := by
  have hk := come_ok ok r
  obtain ⟨C, hC⟩ : ∃ C, come B r = C := ⟨_, rfl⟩
  have hrc : ∀ w : World, _ := fun w => rCome_any ok r w
  rw [hC] at hrc hk
  have HRC := Aside0.mk hrc
  have p0 : (((w.alloc (.cells #[.int .i64 B.rate, .int .i64 B.cap, .int .i64 B.tok, .int .i64 B.rnd] 41)).alloc (.cells #[.int .i64 0, .int .i64 0, .int .i64 0, .int .i64 0] 41))).heap[w.heap.size]? = some (.cells #[.int .i64 B.rate, .int .i64 B.cap, .int .i64 B.tok, .int .i64 B.rnd] 41 (0, 0)) := blk_alloc (by simpa using heap_alloc_new w _) _
  have p1 : (((w.alloc (.cells #[.int .i64 B.rate, .int .i64 B.cap, .int .i64 B.tok, .int .i64 B.rnd] 41)).alloc (.cells #[.int .i64 0, .int .i64 0, .int .i64 0, .int .i64 0] 41))).heap[w.heap.size + 1]? = some (.cells #[.int .i64 0, .int .i64 0, .int .i64 0, .int .i64 0] 41 (0, 0)) := by
    have := heap_alloc_new (w.alloc (.cells #[.int .i64 B.rate, .int .i64 B.cap, .int .i64 B.tok, .int .i64 B.rnd] 41)) (.cells #[.int .i64 0, .int .i64 0, .int .i64 0, .int .i64 0] 41)
    simpa using this
  have P0 := Aside0.mk p0
  have P1 := Aside0.mk p1
  have t0 := hk.t0
  have t1 := hk.t1
  have t2 := hk.c1
  clear p0 p1 hrc
  have hne : w.heap.size + 1 ≠ w.heap.size := by omega
  by_cases hz : C.tok = 0
  · have z1 : (C.tok == 0) = true := beq_iff_eq.mpr hz
    have E1 := Aside0.mk (show take B r = C by rw [take_none (by rw [hC]; exact hz), hC])
    have E2 := Aside0.mk (show took B r = false by unfold took; rw [hC]; simp [hz])
    clear hC hz
    go_enter Try.func20, Try.ntmps20
    go_wp2_with (first | (go_at_call 21; refine (HRC.out _).mono ?_; rintro e w2 ⟨rfl, hb⟩; have q0 := (hb.block w.heap.size (by simp; omega)).trans P0.out; have q1 := (hb.block (w.heap.size + 1) (by simp)).trans P1.out; have Q0 := Aside0.mk q0; have Q1 := Aside0.mk q1; have hb2 : Below w.heap.size w w2 := (below_alloc (below_alloc (Below.refl _ _) _) _).trans (hb.mono (by simp; omega)); have HB := Aside0.mk hb2; clear hb hb2; have e0 : w2.cell? ⟨w.heap.size, 0, none⟩ = some (.int .i64 B.rate) := (blk_cell q0 0).trans rfl; have e1 : w2.cell? ⟨w.heap.size, 1, none⟩ = some (.int .i64 B.cap) := (blk_cell q0 1).trans rfl; have e2 : w2.cell? ⟨w.heap.size, 2, none⟩ = some (.int .i64 B.tok) := (blk_cell q0 2).trans rfl; have e3 : w2.cell? ⟨w.heap.size, 3, none⟩ = some (.int .i64 B.rnd) := (blk_cell q0 3).trans rfl; have f0 := blk_frozen q0 0; have f1 := blk_frozen q0 1; have f2 := blk_frozen q0 2; have f3 := blk_frozen q0 3; have g0 : w2.cell? ⟨w.heap.size + 1, 0, none⟩ = some (.int .i64 0) := (blk_cell q1 0).trans rfl; have g1 : w2.cell? ⟨w.heap.size + 1, 1, none⟩ = some (.int .i64 0) := (blk_cell q1 1).trans rfl; have g2 : w2.cell? ⟨w.heap.size + 1, 2, none⟩ = some (.int .i64 0) := (blk_cell q1 2).trans rfl; have g3 : w2.cell? ⟨w.heap.size + 1, 3, none⟩ = some (.int .i64 0) := (blk_cell q1 3).trans rfl; have h0 := blk_frozen q1 0; have h1 := blk_frozen q1 1; have h2 := blk_frozen q1 2; have h3 := blk_frozen q1 3; clear q0 q1))
    refine bodyPost_ret (results_ct rfl _ _ (w.heap.size + 1) 41 #[.int .i64 C.rate, .int .i64 C.cap, .int .i64 C.tok, .int .i64 C.rnd] (0, 0) _ rfl ?hheap Try.underlying41 rfl (by kernel_rfl)) rfl ?_
    case hheap => exact put4 (far4 Q1.out hne)
    refine ⟨ret_take E1.out E2.out, ?_⟩
    repeat (first | (with_reducible exact HB.out) | refine below_set ?_ (by omega))
  · have z1 : (C.tok == 0) = false := beq_eq_false_iff_ne.mpr hz
    have E1 := Aside0.mk (show take B r = { C with tok := C.tok - 1 } by rw [take_some (by rw [hC]; exact hz), hC])
    have E2 := Aside0.mk (show took B r = true by unfold took; rw [hC]; simp [hz])
    clear hC hz
    go_enter Try.func20, Try.ntmps20
    go_upto_region 4 with (first | (go_at_call 21; refine (HRC.out _).mono ?_; rintro e w2 ⟨rfl, hb⟩; have q0 := (hb.block w.heap.size (by simp; omega)).trans P0.out; have q1 := (hb.block (w.heap.size + 1) (by simp)).trans P1.out; have Q0 := Aside0.mk q0; have Q1 := Aside0.mk q1; have hb2 : Below w.heap.size w w2 := (below_alloc (below_alloc (Below.refl _ _) _) _).trans (hb.mono (by simp; omega)); have HB := Aside0.mk hb2; clear hb hb2; have e0 : w2.cell? ⟨w.heap.size, 0, none⟩ = some (.int .i64 B.rate) := (blk_cell q0 0).trans rfl; have e1 : w2.cell? ⟨w.heap.size, 1, none⟩ = some (.int .i64 B.cap) := (blk_cell q0 1).trans rfl; have e2 : w2.cell? ⟨w.heap.size, 2, none⟩ = some (.int .i64 B.tok) := (blk_cell q0 2).trans rfl; have e3 : w2.cell? ⟨w.heap.size, 3, none⟩ = some (.int .i64 B.rnd) := (blk_cell q0 3).trans rfl; have f0 := blk_frozen q0 0; have f1 := blk_frozen q0 1; have f2 := blk_frozen q0 2; have f3 := blk_frozen q0 3; have g0 : w2.cell? ⟨w.heap.size + 1, 0, none⟩ = some (.int .i64 0) := (blk_cell q1 0).trans rfl; have g1 : w2.cell? ⟨w.heap.size + 1, 1, none⟩ = some (.int .i64 0) := (blk_cell q1 1).trans rfl; have g2 : w2.cell? ⟨w.heap.size + 1, 2, none⟩ = some (.int .i64 0) := (blk_cell q1 2).trans rfl; have g3 : w2.cell? ⟨w.heap.size + 1, 3, none⟩ = some (.int .i64 0) := (blk_cell q1 3).trans rfl; have h0 := blk_frozen q1 0; have h1 := blk_frozen q1 1; have h2 := blk_frozen q1 2; have h3 := blk_frozen q1 3; clear q0 q1))
    have q0 : ((((w2.setCell ⟨w.heap.size, 0, none⟩ (.int .i64 C.rate)).setCell ⟨w.heap.size, 1, none⟩ (.int .i64 C.cap)).setCell ⟨w.heap.size, 2, none⟩ (.int .i64 C.tok)).setCell ⟨w.heap.size, 3, none⟩ (.int .i64 C.rnd)).heap[w.heap.size]? = some (.cells #[.int .i64 C.rate, .int .i64 C.cap, .int .i64 C.tok, .int .i64 C.rnd] 41 (0, 0)) := put4 Q0.out
    have q1 : ((((w2.setCell ⟨w.heap.size, 0, none⟩ (.int .i64 C.rate)).setCell ⟨w.heap.size, 1, none⟩ (.int .i64 C.cap)).setCell ⟨w.heap.size, 2, none⟩ (.int .i64 C.tok)).setCell ⟨w.heap.size, 3, none⟩ (.int .i64 C.rnd)).heap[w.heap.size + 1]? = some (.cells #[.int .i64 0, .int .i64 0, .int .i64 0, .int .i64 0] 41 (0, 0)) := far4 Q1.out hne
    have hb3 : Below w.heap.size w ((((w2.setCell ⟨w.heap.size, 0, none⟩ (.int .i64 C.rate)).setCell ⟨w.heap.size, 1, none⟩ (.int .i64 C.cap)).setCell ⟨w.heap.size, 2, none⟩ (.int .i64 C.tok)).setCell ⟨w.heap.size, 3, none⟩ (.int .i64 C.rnd)) := below_set (below_set (below_set (below_set HB.out (Nat.le_refl _)) (Nat.le_refl _)) (Nat.le_refl _)) (Nat.le_refl _)
    clear e0 e1 e2 e3 f0 f1 f2 f3 g0 g1 g2 g3 h0 h1 h2 h3 Q0 Q1 HB
    revert q0 q1 hb3
    generalize ((((w2.setCell ⟨w.heap.size, 0, none⟩ (.int .i64 C.rate)).setCell ⟨w.heap.size, 1, none⟩ (.int .i64 C.cap)).setCell ⟨w.heap.size, 2, none⟩ (.int .i64 C.tok)).setCell ⟨w.heap.size, 3, none⟩ (.int .i64 C.rnd)) = w3
    intro q0 q1 hb3
    have Q0' : (w3.setCell ⟨w.heap.size, 2, none⟩ (.int .i64 (C.tok - 1))).heap[w.heap.size]? = some (.cells #[.int .i64 C.rate, .int .i64 C.cap, .int .i64 (C.tok - 1), .int .i64 C.rnd] 41 (0, 0)) := blk_put q0 2 _ rfl
    have Q1' : (w3.setCell ⟨w.heap.size, 2, none⟩ (.int .i64 (C.tok - 1))).heap[w.heap.size + 1]? = some (.cells #[.int .i64 0, .int .i64 0, .int .i64 0, .int .i64 0] 41 (0, 0)) := blk_far q1 hne _
    have HB3' : Below w.heap.size w (w3.setCell ⟨w.heap.size, 2, none⟩ (.int .i64 (C.tok - 1))) := below_set hb3 (Nat.le_refl _)
    have e2 : w3.cell? ⟨w.heap.size, 2, none⟩ = some (.int .i64 C.tok) := (blk_cell q0 2).trans rfl
    have f2 := blk_frozen q0 2
    have A0 := Aside0.mk Q0'
    have A1 := Aside0.mk Q1'
    have A2 := Aside0.mk HB3'
    clear q0 q1 hb3 Q0' Q1' HB3'
    go_upto_region 5 with (fail)
    clear e2 f2
    revert A0 A1 A2
    generalize w3.setCell ⟨w.heap.size, 2, none⟩ (.int .i64 (C.tok - 1)) = w4
    intro A0 A1 A2
    have e0 : w4.cell? ⟨w.heap.size, 0, none⟩ = some (.int .i64 C.rate) := (blk_cell A0.out 0).trans rfl
    have g0 : w4.cell? ⟨w.heap.size + 1, 0, none⟩ = some (.int .i64 0) := (blk_cell A1.out 0).trans rfl
    have h0 := blk_frozen A1.out 0
    have e1 : w4.cell? ⟨w.heap.size, 1, none⟩ = some (.int .i64 C.cap) := (blk_cell A0.out 1).trans rfl
    have g1 : w4.cell? ⟨w.heap.size + 1, 1, none⟩ = some (.int .i64 0) := (blk_cell A1.out 1).trans rfl
    have h1 := blk_frozen A1.out 1
    have e2 : w4.cell? ⟨w.heap.size, 2, none⟩ = some (.int .i64 (C.tok - 1)) := (blk_cell A0.out 2).trans rfl
    have g2 : w4.cell? ⟨w.heap.size + 1, 2, none⟩ = some (.int .i64 0) := (blk_cell A1.out 2).trans rfl
    have h2 := blk_frozen A1.out 2
    have e3 : w4.cell? ⟨w.heap.size, 3, none⟩ = some (.int .i64 C.rnd) := (blk_cell A0.out 3).trans rfl
    have g3 : w4.cell? ⟨w.heap.size + 1, 3, none⟩ = some (.int .i64 0) := (blk_cell A1.out 3).trans rfl
    have h3 := blk_frozen A1.out 3
    go_wp2
    refine bodyPost_ret (results_ct rfl _ _ (w.heap.size + 1) 41 #[.int .i64 C.rate, .int .i64 C.cap, .int .i64 (C.tok - 1), .int .i64 C.rnd] (0, 0) _ rfl ?hheap2 Try.underlying41 rfl (by kernel_rfl)) rfl ?_
    case hheap2 => exact put4 A1.out
    refine ⟨ret_take E1.out E2.out, ?_⟩
    repeat (first | (with_reducible exact A2.out) | refine below_set ?_ (by omega))
theorem ret_wait {x y : Int} {b b' : Bool} (h : y = x) (h' : b = b') : Ending.returned (.tuple #[.int .i64 x, .bool b']) = .returned (.tuple #[.int .i64 y, .bool b]) := by rw [h, h']
set_option maxHeartbeats 1000000 in
set_option maxRecDepth 100000 in
theorem rWait_any {B : Bk} (ok : B.Ok) (r : Int) (w : World) : Calls Try.prog 22 #[.agg #[.int .i64 B.rate, .int .i64 B.cap, .int .i64 B.tok, .int .i64 B.rnd], .int .i64 r] w fun e w' => e = .returned (.tuple #[.int .i64 (waitN B r), .bool (waitIs B r)]) ∧ Below w.heap.size w w' := by
  have hk := come_ok ok r
  have hrate := come_rate B r
  obtain ⟨C, hC⟩ : ∃ C, come B r = C := ⟨_, rfl⟩
  have hrc : ∀ w : World, _ := fun w => rCome_any ok r w
  rw [hC] at hrc hk hrate
  have HRC := Aside0.mk hrc
  have p0 : (w.alloc (.cells #[.int .i64 B.rate, .int .i64 B.cap, .int .i64 B.tok, .int .i64 B.rnd] 41)).heap[w.heap.size]? = some (.cells #[.int .i64 B.rate, .int .i64 B.cap, .int .i64 B.tok, .int .i64 B.rnd] 41 (0, 0)) := by simpa using heap_alloc_new w _
  have P0 := Aside0.mk p0
  have n0 := hk.n0
  have n1 := hk.n1
  clear p0 hrc
  by_cases h1 : 0 < C.tok
  · have z1 : decide (0 < C.tok) = true := decide_eq_true h1
    have E1 := Aside0.mk (show waitN B r = C.rnd by unfold waitN; rw [hC, if_pos h1])
    have E2 := Aside0.mk (show waitIs B r = true by unfold waitIs; rw [hC, if_pos h1])
    clear hC h1 hrate
    go_enter Try.func22, Try.ntmps22
    go_wp2_with (first | (go_at_call 21; refine (HRC.out _).mono ?_; rintro e w2 ⟨rfl, hb⟩; have q0 := (hb.block w.heap.size (by simp)).trans P0.out; have hb2 : Below w.heap.size w w2 := (below_alloc (Below.refl _ _) _).trans (hb.mono (by simp)); have HB := Aside0.mk hb2; clear hb hb2; have e0 : w2.cell? ⟨w.heap.size, 0, none⟩ = some (.int .i64 B.rate) := (blk_cell q0 0).trans rfl; have f0 := blk_frozen q0 0; have e1 : w2.cell? ⟨w.heap.size, 1, none⟩ = some (.int .i64 B.cap) := (blk_cell q0 1).trans rfl; have f1 := blk_frozen q0 1; have e2 : w2.cell? ⟨w.heap.size, 2, none⟩ = some (.int .i64 B.tok) := (blk_cell q0 2).trans rfl; have f2 := blk_frozen q0 2; have e3 : w2.cell? ⟨w.heap.size, 3, none⟩ = some (.int .i64 B.rnd) := (blk_cell q0 3).trans rfl; have f3 := blk_frozen q0 3; clear q0))
    go_ret2
    refine ⟨ret_wait E1.out E2.out, ?_⟩
    repeat (first | (with_reducible exact HB.out) | refine below_set ?_ (by omega))
  · have z1 : decide (0 < C.tok) = false := decide_eq_false h1
    by_cases h2 : B.rate = 0
    · have z2 : (C.rate == 0) = true := beq_iff_eq.mpr (hrate.trans h2)
      have E1 := Aside0.mk (show waitN B r = 0 by unfold waitN; rw [hC, if_neg h1, if_pos (.inl h2)])
      have E2 := Aside0.mk (show waitIs B r = false by unfold waitIs; rw [hC, if_neg h1, if_pos (.inl h2)])
      clear hC h1 hrate h2
      go_enter Try.func22, Try.ntmps22
      go_wp2_with (first | (go_at_call 21; refine (HRC.out _).mono ?_; rintro e w2 ⟨rfl, hb⟩; have q0 := (hb.block w.heap.size (by simp)).trans P0.out; have hb2 : Below w.heap.size w w2 := (below_alloc (Below.refl _ _) _).trans (hb.mono (by simp)); have HB := Aside0.mk hb2; clear hb hb2; have e0 : w2.cell? ⟨w.heap.size, 0, none⟩ = some (.int .i64 B.rate) := (blk_cell q0 0).trans rfl; have f0 := blk_frozen q0 0; have e1 : w2.cell? ⟨w.heap.size, 1, none⟩ = some (.int .i64 B.cap) := (blk_cell q0 1).trans rfl; have f1 := blk_frozen q0 1; have e2 : w2.cell? ⟨w.heap.size, 2, none⟩ = some (.int .i64 B.tok) := (blk_cell q0 2).trans rfl; have f2 := blk_frozen q0 2; have e3 : w2.cell? ⟨w.heap.size, 3, none⟩ = some (.int .i64 B.rnd) := (blk_cell q0 3).trans rfl; have f3 := blk_frozen q0 3; clear q0))
      go_ret2
      refine ⟨ret_wait E1.out E2.out, ?_⟩
      repeat (first | (with_reducible exact HB.out) | refine below_set ?_ (by omega))
    · have z2 : (C.rate == 0) = false := beq_eq_false_iff_ne.mpr (by rw [hrate]; exact h2)
      by_cases h3 : C.rnd = 4611686018427387904
      · have z3 : (C.rnd == 4611686018427387904) = true := beq_iff_eq.mpr h3
        have E1 := Aside0.mk (show waitN B r = 0 by unfold waitN; rw [hC, if_neg h1, if_pos (.inr h3)])
        have E2 := Aside0.mk (show waitIs B r = false by unfold waitIs; rw [hC, if_neg h1, if_pos (.inr h3)])
        clear hC h1 hrate h2 h3
        go_enter Try.func22, Try.ntmps22
        go_wp2_with (first | (go_at_call 21; refine (HRC.out _).mono ?_; rintro e w2 ⟨rfl, hb⟩; have q0 := (hb.block w.heap.size (by simp)).trans P0.out; have hb2 : Below w.heap.size w w2 := (below_alloc (Below.refl _ _) _).trans (hb.mono (by simp)); have HB := Aside0.mk hb2; clear hb hb2; have e0 : w2.cell? ⟨w.heap.size, 0, none⟩ = some (.int .i64 B.rate) := (blk_cell q0 0).trans rfl; have f0 := blk_frozen q0 0; have e1 : w2.cell? ⟨w.heap.size, 1, none⟩ = some (.int .i64 B.cap) := (blk_cell q0 1).trans rfl; have f1 := blk_frozen q0 1; have e2 : w2.cell? ⟨w.heap.size, 2, none⟩ = some (.int .i64 B.tok) := (blk_cell q0 2).trans rfl; have f2 := blk_frozen q0 2; have e3 : w2.cell? ⟨w.heap.size, 3, none⟩ = some (.int .i64 B.rnd) := (blk_cell q0 3).trans rfl; have f3 := blk_frozen q0 3; clear q0))
        go_ret2
        refine ⟨ret_wait E1.out E2.out, ?_⟩
        repeat (first | (with_reducible exact HB.out) | refine below_set ?_ (by omega))
      · have z3 : (C.rnd == 4611686018427387904) = false := beq_eq_false_iff_ne.mpr h3
        have E1 := Aside0.mk (show waitN B r = C.rnd + 1 by unfold waitN; rw [hC, if_neg h1, if_neg (by omega)])
        have E2 := Aside0.mk (show waitIs B r = true by unfold waitIs; rw [hC, if_neg h1, if_neg (by omega)])
        clear hC h1 hrate h2
        go_enter Try.func22, Try.ntmps22
        go_wp2_with (first | (go_at_call 21; refine (HRC.out _).mono ?_; rintro e w2 ⟨rfl, hb⟩; have q0 := (hb.block w.heap.size (by simp)).trans P0.out; have hb2 : Below w.heap.size w w2 := (below_alloc (Below.refl _ _) _).trans (hb.mono (by simp)); have HB := Aside0.mk hb2; clear hb hb2; have e0 : w2.cell? ⟨w.heap.size, 0, none⟩ = some (.int .i64 B.rate) := (blk_cell q0 0).trans rfl; have f0 := blk_frozen q0 0; have e1 : w2.cell? ⟨w.heap.size, 1, none⟩ = some (.int .i64 B.cap) := (blk_cell q0 1).trans rfl; have f1 := blk_frozen q0 1; have e2 : w2.cell? ⟨w.heap.size, 2, none⟩ = some (.int .i64 B.tok) := (blk_cell q0 2).trans rfl; have f2 := blk_frozen q0 2; have e3 : w2.cell? ⟨w.heap.size, 3, none⟩ = some (.int .i64 B.rnd) := (blk_cell q0 3).trans rfl; have f3 := blk_frozen q0 3; clear q0))
        go_ret2
        refine ⟨ret_wait E1.out E2.out, ?_⟩
        repeat (first | (with_reducible exact HB.out) | refine below_set ?_ (by omega))
theorem kind_any (x y : Int) (w : World) : Calls Try.prog 19 #[.agg #[.int .i64 x, .int .i64 y]] w fun e w' => e = .returned (.int .i64 (wrap64 (Int.tmod (IntKind.u64.wrap x) 6))) ∧ Below w.heap.size w w' := by
  go_enter Try.func19, Try.ntmps19
  go_wp2
  go_ret
  exact ⟨rfl, below_alloc (Below.refl _ _) _⟩
end Go.Proofs.Ytpjjienjfbimjaa.Bk
