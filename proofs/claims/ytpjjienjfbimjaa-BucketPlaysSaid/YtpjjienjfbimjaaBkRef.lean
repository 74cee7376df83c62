/- The reference's functions of layer 11, by the plain functions of XBkMath. -/
import Derived.Test.YtpjjienjfbimjaaBk
import Derived.Test.YtpjjienjfbimjaaRefCut
set_option linter.unusedVariables false
set_option linter.unusedSimpArgs false
namespace Go.Proofs.Ytpjjienjfbimjaa.Bk
open Go.RowKit Go.Proofs.YtpjjienjfbimjaaW.PrintWords Go.Proofs.YtpjjienjfbimjaaW.PrintLast Go.Proofs.YtpjjienjfbimjaaW.PrintMore Go.Proofs.Ytpjjienjfbimjaa.Sat
attribute [local go_sem] Try.underlying41 Try.underlying37 max2_int min2_int max_two min_two max_three min_three max_four min_four
/-- The tokens behind i rounds, one by one. -/
def slow (B : Bk) (i : Int) : Int := min (B.tok + B.rate * i) B.cap
theorem slow_step {B : Bk} (ok : B.Ok) {i : Int} (h0 : 0 ≤ i) : slow B (i + 1) = min (slow B i + B.rate) B.cap := by
  obtain ⟨r0, r1, c0, c1, t0, t1, n0, n1⟩ := ok
  have m0 : 0 ≤ B.rate * i := Int.mul_nonneg r0 h0
  unfold slow
  rw [Int.mul_add, Int.mul_one]
  generalize B.rate * i = z at m0
  omega
theorem slow_bd {B : Bk} (ok : B.Ok) {i : Int} (h0 : 0 ≤ i) : 0 ≤ slow B i ∧ slow B i ≤ 64 := by
  obtain ⟨r0, r1, c0, c1, t0, t1, n0, n1⟩ := ok
  have m0 : 0 ≤ B.rate * i := Int.mul_nonneg r0 h0
  unfold slow
  omega
theorem slow_zero {B : Bk} (ok : B.Ok) : slow B 0 = B.tok := by
  obtain ⟨r0, r1, c0, c1, t0, t1, n0, n1⟩ := ok
  unfold slow
  rw [Int.mul_zero]
  omega
theorem slow_end {B : Bk} (ok : B.Ok) (r : Int) {j : Int} (hj : j = min 64 (max 0 (cut r - B.rnd))) : come B r = ⟨B.rate, B.cap, slow B j, max B.rnd (cut r)⟩ := by
  obtain ⟨r0, r1, c0, c1, t0, t1, n0, n1⟩ := ok
  have hc := cut_bd r
  obtain ⟨ra, ca, ta, na⟩ := B
  simp only [] at *
  unfold come slow
  simp only []
  by_cases h : cut r ≤ na
  · rw [if_pos h, Bk.mk.injEq, show j = 0 by omega, Int.mul_zero]
    exact ⟨rfl, rfl, by omega, by omega⟩
  · rw [if_neg h, Bk.mk.injEq]
    refine ⟨rfl, rfl, ?_, by omega⟩
    by_cases h2 : cut r - na ≤ 64
    · rw [show j = cut r - na by omega]
    · rw [show j = 64 by omega]
      by_cases hz : ra = 0
      · rw [hz, Int.zero_mul, Int.zero_mul]
      · have : ra * 64 ≤ ra * (cut r - na) := Int.mul_le_mul_of_nonneg_left (by omega) r0
        omega
set_option maxHeartbeats 1000000 in
set_option maxRecDepth 100000 in
theorem rCome_any {B : Bk} (ok : B.Ok) (r : Int) (w : World) : Calls Try.prog 21 #[.agg #[.int .i64 B.rate, .int .i64 B.cap, .int .i64 B.tok, .int .i64 B.rnd], .int .i64 r] w fun e w' => e = .returned (.agg #[.int .i64 (come B r).rate, .int .i64 (come B r).cap, .int .i64 (come B r).tok, .int .i64 (come B r).rnd]) ∧ Below w.heap.size w w' := by
  have T := Try.underlying41
  obtain ⟨j, hj⟩ : ∃ j : Nat, (j : Int) = min 64 (max 0 (cut r - B.rnd)) := ⟨(min 64 (max 0 (cut r - B.rnd))).toNat, by omega⟩
  have HE := Aside0.mk (slow_end ok r hj)
  have hc := cut_bd r
  have OK := Aside0.mk ok
  have r0 := ok.r0
  have r1 := ok.r1
  have c0 := ok.c0
  have c1 := ok.c1
  have n0 := ok.n0
  have n1 := ok.n1
  have z0 := Aside0.mk (slow_zero ok)
  obtain ⟨o0, o1⟩ := hc
  obtain ⟨o, ho⟩ : ∃ o, cut r = o := ⟨_, rfl⟩
  rw [ho] at o0 o1 hj HE
  have HO := Aside0.mk ho
  have j64 : j ≤ 64 := by omega
  have HJ := Aside0.mk hj
  have T' := Aside0.mk T
  clear ok ho T hj
  have b1 : (w.alloc (.cells #[.int .i64 B.rate, .int .i64 B.cap, .int .i64 B.tok, .int .i64 B.rnd] 41)).heap[w.heap.size]? = some (.cells #[.int .i64 B.rate, .int .i64 B.cap, .int .i64 B.tok, .int .i64 B.rnd] 41 (0, 0)) := by simpa using heap_alloc_new w _
  have hrc : ∀ w : World, Calls Try.prog 27 #[.int .i64 r] w fun e w' => e = .returned (.int .i64 o) ∧ w = w' := fun w => by
    have := rcut_any r w
    rw [HO.out] at this
    exact this
  have HC := Aside0.mk hrc
  have B1 := Aside0.mk b1
  clear hrc b1
  go_enter Try.func21, Try.ntmps21
  go_wp2_with (first | (go_at_call 27; refine (HC.out _).mono ?_; rintro e w' ⟨rfl, rfl⟩))
  have P0 := Aside0.mk (show ((w.alloc (.cells #[.int .i64 B.rate, .int .i64 B.cap, .int .i64 B.tok, .int .i64 B.rnd] 41)).alloc (.cells #[.int .i64 0, .int .i64 0, .int .i64 0, .int .i64 0] 41)).heap[w.heap.size]? = some (.cells #[.int .i64 B.rate, .int .i64 B.cap, .int .i64 (slow B 0), .int .i64 B.rnd] 41 (0, 0)) by rw [z0.out]; exact blk_alloc B1.out _)
  have P1 := Aside0.mk (show ((w.alloc (.cells #[.int .i64 B.rate, .int .i64 B.cap, .int .i64 B.tok, .int .i64 B.rnd] 41)).alloc (.cells #[.int .i64 0, .int .i64 0, .int .i64 0, .int .i64 0] 41)).heap[w.heap.size + 1]? = some (.cells #[.int .i64 0, .int .i64 0, .int .i64 0, .int .i64 0] 41 (0, 0)) by
    have := heap_alloc_new (w.alloc (.cells #[.int .i64 B.rate, .int .i64 B.cap, .int .i64 B.tok, .int .i64 B.rnd] 41)) (.cells #[.int .i64 0, .int .i64 0, .int .i64 0, .int .i64 0] 41)
    simpa using this)
  have P2 := Aside0.mk (below_alloc (below_alloc (Below.refl w.heap.size w) (.cells #[.int .i64 B.rate, .int .i64 B.cap, .int .i64 B.tok, .int .i64 B.rnd] 41)) (.cells #[.int .i64 0, .int .i64 0, .int .i64 0, .int .i64 0] 41))
  have hne : w.heap.size ≠ w.heap.size + 1 := by omega
  go_loopw [6] (fun i wr => ∃ k : Nat, k ≤ j ∧ i = .int .i64 k ∧ Aside0 (wr.heap[w.heap.size]? = some (.cells #[.int .i64 B.rate, .int .i64 B.cap, .int .i64 (slow B k), .int .i64 B.rnd] 41 (0, 0))) ∧ Aside0 (wr.heap[w.heap.size + 1]? = some (.cells #[.int .i64 0, .int .i64 0, .int .i64 0, .int .i64 0] 41 (0, 0))) ∧ Aside0 (Below w.heap.size w wr)) (fun i _ => j - (intOf i).toNat)
  case atStart => exact ⟨0, by omega, rfl, P0, P1, P2⟩
  case round =>
    clear P0 P1 P2 z0 B1
    obtain ⟨k, hk, rfl, P0, P1, P2⟩ := hrel
    have e0 : wr.cell? ⟨w.heap.size, 0, none⟩ = some (.int .i64 B.rate) := (blk_cell P0.out 0).trans rfl
    have e1 : wr.cell? ⟨w.heap.size, 1, none⟩ = some (.int .i64 B.cap) := (blk_cell P0.out 1).trans rfl
    have e2 : wr.cell? ⟨w.heap.size, 2, none⟩ = some (.int .i64 (slow B k)) := (blk_cell P0.out 2).trans rfl
    have e3 : wr.cell? ⟨w.heap.size, 3, none⟩ = some (.int .i64 B.rnd) := (blk_cell P0.out 3).trans rfl
    have f2 := blk_frozen P0.out 2
    have f3 := blk_frozen P0.out 3
    obtain ⟨s0, s1⟩ := slow_bd OK.out (i := k) (by omega)
    by_cases hlt : k < j
    · have hk64 : k < 64 := by have := HJ.out; omega
      have hto : B.rnd + k < o := by have := HJ.out; omega
      obtain ⟨m, hm⟩ : ∃ m : Int, (if B.cap < slow B k + B.rate then B.cap else slow B k + B.rate) = m := ⟨_, rfl⟩
      have hm2 : m = slow B ((k : Int) + 1) := by
        rw [slow_step OK.out (by omega), ← hm]
        split <;> omega
      have HM := Aside0.mk hm2
      clear hm2
      go_wp2
      go_roundw
      case rel => exact ⟨k + 1, by omega, by go_num, ⟨by rw [show ((k + 1 : Nat) : Int) = (k : Int) + 1 by omega, ← HM.out]; exact blk_put P0.out 2 _ rfl⟩, ⟨blk_far P1.out (by simp) _⟩, ⟨below_set P2.out (Nat.le_refl _)⟩⟩
      case measure => simp [intOf]; omega
    · obtain rfl : k = j := by omega
      have hstop : ¬ (k < 64 ∧ B.rnd + k < o) := by have := HJ.out; omega
      obtain ⟨m, hm⟩ : ∃ m : Int, (if B.rnd < o then o else B.rnd) = m := ⟨_, rfl⟩
      have hm2 : m = max B.rnd o := by
        rw [← hm]
        split <;> omega
      have hB : come B r = ⟨B.rate, B.cap, slow B k, m⟩ := by rw [hm2]; exact HE.out
      have HB2 := Aside0.mk hB
      have g0 : wr.cell? ⟨w.heap.size + 1, 0, none⟩ = some (.int .i64 0) := (blk_cell P1.out 0).trans rfl
      have h0 := blk_frozen P1.out 0
      have g1 : wr.cell? ⟨w.heap.size + 1, 1, none⟩ = some (.int .i64 0) := (blk_cell P1.out 1).trans rfl
      have h1 := blk_frozen P1.out 1
      have g2 : wr.cell? ⟨w.heap.size + 1, 2, none⟩ = some (.int .i64 0) := (blk_cell P1.out 2).trans rfl
      have h2 := blk_frozen P1.out 2
      have g3 : wr.cell? ⟨w.heap.size + 1, 3, none⟩ = some (.int .i64 0) := (blk_cell P1.out 3).trans rfl
      have h3 := blk_frozen P1.out 3
      clear hm2 hB
      by_cases hk64 : k < 64
      · have hge : ¬ (B.rnd + k < o) := fun h => hstop ⟨hk64, h⟩
        clear hstop
        go_wp2
        refine bodyPost_ret (results_cell_row rfl _ _ (w.heap.size + 1) 41 #[.int .i64 B.rate, .int .i64 B.cap, .int .i64 (slow B k), .int .i64 m] (0, 0) _ rfl ?hheap T'.out rfl (by kernel_rfl)) rfl ?_
        case hheap =>
          refine blk_put (cs := #[.int .i64 B.rate, .int .i64 B.cap, .int .i64 (slow B k), .int .i64 0]) ?_ 3 _ rfl
          refine blk_put (cs := #[.int .i64 B.rate, .int .i64 B.cap, .int .i64 0, .int .i64 0]) ?_ 2 _ rfl
          refine blk_put (cs := #[.int .i64 B.rate, .int .i64 0, .int .i64 0, .int .i64 0]) ?_ 1 _ rfl
          refine blk_put (cs := #[.int .i64 0, .int .i64 0, .int .i64 0, .int .i64 0]) ?_ 0 _ rfl
          exact blk_far P1.out (by simp) _
        refine ⟨by rw [HB2.out], ?_⟩
        repeat (first | (with_reducible exact P2.out) | refine below_set ?_ (by omega))
      · clear hstop
        have hlto : B.rnd < o := by have := HJ.out; omega
        have hmo : o = m := by rw [← hm, if_pos hlto]
        clear hm
        subst hmo
        go_wp2
        refine bodyPost_ret (results_cell_row rfl _ _ (w.heap.size + 1) 41 #[.int .i64 B.rate, .int .i64 B.cap, .int .i64 (slow B k), .int .i64 o] (0, 0) _ rfl ?hheap2 T'.out rfl (by kernel_rfl)) rfl ?_
        case hheap2 =>
          refine blk_put (cs := #[.int .i64 B.rate, .int .i64 B.cap, .int .i64 (slow B k), .int .i64 0]) ?_ 3 _ rfl
          refine blk_put (cs := #[.int .i64 B.rate, .int .i64 B.cap, .int .i64 0, .int .i64 0]) ?_ 2 _ rfl
          refine blk_put (cs := #[.int .i64 B.rate, .int .i64 0, .int .i64 0, .int .i64 0]) ?_ 1 _ rfl
          refine blk_put (cs := #[.int .i64 0, .int .i64 0, .int .i64 0, .int .i64 0]) ?_ 0 _ rfl
          exact blk_far P1.out (by simp) _
        refine ⟨by rw [HB2.out], ?_⟩
        repeat (first | (with_reducible exact P2.out) | refine below_set ?_ (by omega))
end Go.Proofs.Ytpjjienjfbimjaa.Bk
