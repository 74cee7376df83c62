/- The walk of BucketWaits. -/
import Derived.Test.YtpjjienjfbimjaaBkLives
set_option linter.unusedVariables false
set_option linter.unusedSimpArgs false
namespace Go.Proofs.Ytpjjienjfbimjaa.Bk
open Go.RowKit Go.Proofs.YtpjjienjfbimjaaW.PrintWords Go.Proofs.YtpjjienjfbimjaaW.PrintLast Go.Proofs.YtpjjienjfbimjaaW.PrintMore Go.Proofs.Ytpjjienjfbimjaa.Sat
attribute [local go_sem] max2_int min2_int max_two min_two max_three min_three max_four min_four
theorem come_same {B : Bk} {r : Int} (h0 : 0 ≤ r) (h1 : r ≤ 4611686018427387904) (h : B.rnd = r) : come B r = B := come_old (by rw [cut_in h0 h1, h]; exact Int.le_refl _)
theorem come_make (rate cap : Int) {r : Int} (h0 : 0 ≤ r) (h1 : r ≤ 4611686018427387904) : come (make rate cap) r = ⟨(make rate cap).rate, (make rate cap).cap, (make rate cap).cap, r⟩ := by
  obtain ⟨r0, _, c0, _, _, _, _, _⟩ := make_ok rate cap
  have e1 : (make rate cap).rnd = 0 := rfl
  have e2 : (make rate cap).tok = (make rate cap).cap := rfl
  revert r0 c0 e1 e2
  generalize make rate cap = M
  obtain ⟨a, b, c, d⟩ := M
  simp only []
  rintro r0 c0 rfl rfl
  unfold come
  rw [cut_in h0 h1]
  simp only []
  have hm : 0 ≤ a * (r - 0) := Int.mul_nonneg r0 (by omega)
  generalize a * (r - 0) = z at hm
  split
  · rw [Bk.mk.injEq]
    exact ⟨rfl, rfl, rfl, by omega⟩
  · rw [Bk.mk.injEq]
    exact ⟨rfl, rfl, by omega, rfl⟩
theorem takes_succ1 (r d : Int) (B : Bk) (n : Int) (k : Nat) : (takes r d B n (k + 1)).1 = take (takes r d B n k).1 r := rfl
theorem takes_form (rate cap : Int) {r : Int} (h0 : 0 ≤ r) (h1 : r ≤ 4611686018427387904) (k : Nat) : come (takes r 0 (make rate cap) 0 k).1 r = ⟨(make rate cap).rate, (make rate cap).cap, max ((make rate cap).cap - k) 0, r⟩ := by
  have hc : 1 ≤ (make rate cap).cap := (make_ok rate cap).c0
  induction k with
  | zero =>
    show come (make rate cap) r = _
    rw [come_make rate cap h0 h1, Bk.mk.injEq]
    exact ⟨rfl, rfl, by omega, rfl⟩
  | succ k ih =>
    rw [takes_succ1]
    unfold take
    rw [ih]
    by_cases h : max ((make rate cap).cap - k) 0 = 0
    · rw [if_pos h, come_same h0 h1 rfl, Bk.mk.injEq]
      exact ⟨rfl, rfl, by omega, rfl⟩
    · rw [if_neg h, come_same h0 h1 rfl, Bk.mk.injEq]
      exact ⟨rfl, rfl, by simp only []; omega, rfl⟩
theorem takes_end (rate cap : Int) {r : Int} (h0 : 0 ≤ r) (h1 : r ≤ 4611686018427387904) {k : Nat} (hk : 64 ≤ k) : (takes r 0 (make rate cap) 0 (k + 1)).1 = ⟨(make rate cap).rate, (make rate cap).cap, 0, r⟩ := by
  have hc : (make rate cap).cap ≤ 64 := (make_ok rate cap).c1
  rw [takes_succ1]
  unfold take
  rw [takes_form rate cap h0 h1 k]
  rw [if_pos (by simp only []; omega), Bk.mk.injEq]
  exact ⟨rfl, rfl, by omega, rfl⟩
set_option maxHeartbeats 2000000 in
set_option maxRecDepth 100000 in
theorem waits_any (rate cap x : Int) (w : World) : Calls Try.prog 4 #[.int .i64 rate, .int .i64 cap, .int .i64 x] w fun e w' => e = .returned (.bool true) ∧ Below w.heap.size w w' := by
  obtain ⟨hx0, hx1, hx2⟩ := um x 1000000 (by omega) (by omega)
  rw [← hx0] at hx1 hx2
  have OK := Aside0.mk (make_ok rate cap)
  clear hx0
  obtain ⟨r, hr⟩ : ∃ r, wrap64 (Int.tmod (IntKind.u64.wrap x) 1000000) = r := ⟨_, rfl⟩
  rw [hr] at hx1 hx2
  have HR := Aside0.mk hr
  clear hr
  go_enter Try.func4, Try.ntmps4
  go_wp2_with (first | (go_at_call 8; refine (lives_any _).mono ?_; rintro e w1 ⟨rfl, hb⟩; have HW1 := Aside0.mk hb; clear hb) | (go_at_call 9; refine (new_any _ _ _).mono ?_; rintro e w' ⟨rfl, rfl⟩))
  rw [HR.out]
  have B0 := Aside0.mk (show BK (w1.alloc (.cells #[.int .i64 (make rate cap).rate, .int .i64 (make rate cap).cap, .int .i64 (make rate cap).tok, .int .i64 (make rate cap).rnd] 49)) w1.heap.size (make rate cap) by simpa [BK] using heap_alloc_new w1 _)
  have W0 := Aside0.mk (below_alloc HW1.out (.cells #[.int .i64 (make rate cap).rate, .int .i64 (make rate cap).cap, .int .i64 (make rate cap).tok, .int .i64 (make rate cap).rnd] 49))
  have LE := Aside0.mk HW1.out.size
  go_loopw [9] (fun i wr => ∃ k : Nat, k ≤ 70 ∧ i = .int .i64 k ∧ Aside0 (BK wr w1.heap.size (takes r 0 (make rate cap) 0 k).1) ∧ Aside0 (Below w.heap.size w wr)) (fun i _ => 70 - (intOf i).toNat)
  case atStart => exact ⟨0, by omega, rfl, B0, W0⟩
  case round =>
    clear B0 W0
    obtain ⟨k, hk, rfl, HB, HW⟩ := hrel
    by_cases hlt : k < 70
    · have HC := Aside0.mk (take_any (takes_ok OK.out r 0 0 k) r HB.out)
      go_wp2_with (first | (go_at_call 10; refine HC.out.mono ?_; clear HC; rintro e w2 ⟨rfl, hb, hg⟩; have HB2 := Aside0.mk hb; have HW2 := Aside0.mk (below_bk HW.out LE.out hg); clear hb hg))
      go_roundw
      case rel => exact ⟨k + 1, by omega, by go_num, HB2, HW2⟩
      case measure => simp [intOf]; omega
    · obtain rfl : k = 69 + 1 := by omega
      rw [takes_end rate cap hx1 (by omega) (by omega)] at HB
      obtain ⟨m0, m1, m2, m3, _, _, _, _⟩ := OK.out
      obtain ⟨a, ha⟩ : ∃ a, (make rate cap).rate = a := ⟨_, rfl⟩
      obtain ⟨b, hb⟩ : ∃ b, (make rate cap).cap = b := ⟨_, rfl⟩
      rw [ha, hb] at HB
      rw [ha] at m0 m1
      rw [hb] at m2 m3
      clear ha hb hlt hk
      have okT : (⟨a, b, 0, r⟩ : Bk).Ok := ⟨m0, m1, m2, m3, by simp, by simp only []; omega, by simpa using hx1, by simp only []; omega⟩
      have cs : come ⟨a, b, 0, r⟩ r = ⟨a, b, 0, r⟩ := come_same hx1 (by omega) rfl
      have OKT := Aside0.mk okT
      by_cases hz : a = 0
      · have wt : waitN ⟨a, b, 0, r⟩ r = 0 := by unfold waitN; rw [cs]; simp [hz]
        have wi : waitIs ⟨a, b, 0, r⟩ r = false := by unfold waitIs; rw [cs]; simp [hz]
        have c1 := wait_any okT r HB.out
        rw [wt, wi, cs] at c1
        have C1 := Aside0.mk c1
        have c2 : ∀ W : World, BK W w1.heap.size ⟨a, b, 0, r⟩ → Calls Try.prog 11 #[.pointer (some ⟨w1.heap.size, 0, none⟩), .int .i64 r] W fun e w' => e = .returned (.int .i64 0) ∧ BK w' w1.heap.size ⟨a, b, 0, r⟩ ∧ W.grownBy w' (some w1.heap.size) := fun W h => by
          have := tokens_any OKT.out r h
          rw [cs] at this
          exact this
        have c4 : ∀ W : World, BK W w1.heap.size ⟨a, b, 0, r⟩ → Calls Try.prog 11 #[.pointer (some ⟨w1.heap.size, 0, none⟩), .int .i64 (r + 1000)] W fun e w' => e = .returned (.int .i64 0) ∧ W.grownBy w' (some w1.heap.size) := fun W h => by
          have := tokens_any OKT.out (r + 1000) h
          have e : (come ⟨a, b, 0, r⟩ (r + 1000)).tok = 0 := by
            unfold come
            split
            · rfl
            · simp only []
              rw [hz, Int.zero_mul]
              omega
          rw [e] at this
          exact this.mono fun _ _ h => ⟨h.1, h.2.2⟩
        have ha : (decide (0 < a)) = false := decide_eq_false (by omega)
        have ha2 : ¬ 0 < a := by omega
        have HC2 := Aside0.mk c2
        have HC4 := Aside0.mk c4
        clear wt wi c1 cs c2 c4 okT m0 m1 hz
        go_wp2_with (first
          | (go_at_call 13; refine C1.out.mono ?_; clear C1; rintro e w3 ⟨rfl, hb, hg⟩; have HW3 := Aside0.mk (below_bk HW.out LE.out hg); have HB3 := Aside0.mk hb; clear hb hg; have C2 := Aside0.mk (HC2.out _ HB3.out))
          | (go_at_call 11; refine C2.out.mono ?_; clear C2; rintro e w4 ⟨rfl, hb, hg⟩; have HW4 := Aside0.mk (below_bk HW3.out LE.out hg); have HB4 := Aside0.mk hb; clear hb hg; have C3 := Aside0.mk (rate_any HB4.out); have C4 := Aside0.mk (HC4.out _ HB4.out))
          | (go_at_call 14; refine C3.out.mono ?_; clear C3; rintro e w5 ⟨rfl, rfl⟩)
          | (go_at_call 11; refine C4.out.mono ?_; clear C4; rintro e w6 ⟨rfl, hg⟩; have HW6 := Aside0.mk (below_bk HW4.out LE.out hg); clear hg))
        go_ret
        exact ⟨rfl, HW6.out⟩
      · have ha1 : 0 < a := by omega
        have wt : waitN ⟨a, b, 0, r⟩ r = r + 1 := by unfold waitN; rw [cs]; simp [hz]; omega
        have wi : waitIs ⟨a, b, 0, r⟩ r = true := by unfold waitIs; rw [cs]; simp [hz]; omega
        have c1 := wait_any okT r HB.out
        rw [wt, wi, cs] at c1
        have C1 := Aside0.mk c1
        obtain ⟨m, hm⟩ : ∃ m : Int, (if b < a then b else a) = m := ⟨_, rfl⟩
        have hm1 : m = min a b := by
          rw [← hm]
          split <;> omega
        have hm2 : 0 < m := by omega
        have cn : come ⟨a, b, 0, r⟩ (r + 1) = ⟨a, b, m, r + 1⟩ := by
          unfold come
          rw [cut_in (by omega) (by omega), if_neg (by simp only []; omega), Bk.mk.injEq]
          refine ⟨rfl, rfl, ?_, rfl⟩
          simp only []
          rw [show r + 1 - r = 1 by omega, Int.mul_one]
          omega
        have okN : (⟨a, b, m, r + 1⟩ : Bk).Ok := by rw [← cn]; exact come_ok okT _
        have cs2 : come ⟨a, b, m, r + 1⟩ (r + 1) = ⟨a, b, m, r + 1⟩ := come_same (by omega) (by omega) rfl
        have tk : took ⟨a, b, m, r + 1⟩ (r + 1) = true := by unfold took; rw [cs2]; simp; omega
        have c2 : ∀ W : World, BK W w1.heap.size ⟨a, b, 0, r⟩ → Calls Try.prog 11 #[.pointer (some ⟨w1.heap.size, 0, none⟩), .int .i64 r] W fun e w' => e = .returned (.int .i64 0) ∧ BK w' w1.heap.size ⟨a, b, 0, r⟩ ∧ W.grownBy w' (some w1.heap.size) := fun W h => by
          have := tokens_any OKT.out r h
          rw [cs] at this
          exact this
        have c4 : ∀ W : World, BK W w1.heap.size ⟨a, b, 0, r⟩ → Calls Try.prog 11 #[.pointer (some ⟨w1.heap.size, 0, none⟩), .int .i64 (r + 1)] W fun e w' => e = .returned (.int .i64 m) ∧ BK w' w1.heap.size ⟨a, b, m, r + 1⟩ ∧ W.grownBy w' (some w1.heap.size) := fun W h => by
          have := tokens_any OKT.out (r + 1) h
          rw [cn] at this
          exact this
        have c5 : ∀ W : World, BK W w1.heap.size ⟨a, b, m, r + 1⟩ → Calls Try.prog 10 #[.pointer (some ⟨w1.heap.size, 0, none⟩), .int .i64 (r + 1)] W fun e w' => e = .returned (.bool true) ∧ W.grownBy w' (some w1.heap.size) := fun W h => by
          have := take_any okN (r + 1) h
          rw [tk] at this
          exact this.mono fun _ _ h => ⟨h.1, h.2.2⟩
        have ha : (decide (0 < a)) = true := decide_eq_true ha1
        have HC2 := Aside0.mk c2
        have HC4 := Aside0.mk c4
        have HC5 := Aside0.mk c5
        clear wt wi c1 cs c2 c4 c5 okT m0 m1 hz cn okN cs2 tk hm1
        go_wp2_with (first
          | (go_at_call 13; refine C1.out.mono ?_; clear C1; rintro e w3 ⟨rfl, hb, hg⟩; have HW3 := Aside0.mk (below_bk HW.out LE.out hg); have HB3 := Aside0.mk hb; clear hb hg; have C2 := Aside0.mk (HC2.out _ HB3.out))
          | (go_at_call 11; refine C2.out.mono ?_; clear C2; rintro e w4 ⟨rfl, hb, hg⟩; have HW4 := Aside0.mk (below_bk HW3.out LE.out hg); have HB4 := Aside0.mk hb; clear hb hg; have C3 := Aside0.mk (rate_any HB4.out); have C4 := Aside0.mk (HC4.out _ HB4.out))
          | (go_at_call 14; refine C3.out.mono ?_; clear C3; rintro e w5 ⟨rfl, rfl⟩)
          | (go_at_call 11; refine C4.out.mono ?_; clear C4; rintro e w6 ⟨rfl, hb, hg⟩; have HW6 := Aside0.mk (below_bk HW4.out LE.out hg); have HB6 := Aside0.mk hb; clear hb hg; have C6 := Aside0.mk (rate_any HB6.out); have C7 := Aside0.mk (cap_any HB6.out); have C8 := Aside0.mk (HC5.out _ HB6.out))
          | (go_at_call 14; refine C6.out.mono ?_; clear C6; rintro e w7 ⟨rfl, rfl⟩)
          | (go_at_call 15; refine C7.out.mono ?_; clear C7; rintro e w8 ⟨rfl, rfl⟩)
          | (go_at_call 10; refine C8.out.mono ?_; clear C8; rintro e w9 ⟨rfl, hg⟩; have HW9 := Aside0.mk (below_bk HW6.out LE.out hg); clear hg))
        go_ret
        exact ⟨rfl, HW9.out⟩
end Go.Proofs.Ytpjjienjfbimjaa.Bk
