/- The walk of BucketResets; the script's first 100 steps. -/
import Derived.Test.YtpjjienjfbimjaaBkLives
import Derived.Test.YtpjjienjfbimjaaOpen
set_option linter.unusedVariables false
set_option linter.unusedSimpArgs false
namespace Go.Proofs.Ytpjjienjfbimjaa.Bk
open Go.RowKit Go.Proofs.YtpjjienjfbimjaaW.PrintWords Go.Proofs.YtpjjienjfbimjaaW.PrintLast Go.Proofs.YtpjjienjfbimjaaW.PrintMore Go.Proofs.Ytpjjienjfbimjaa.Sat Go.Proofs.Ytpjjienjfbimjaa.Open
attribute [local go_sem] max2_int min2_int max_two min_two max_three min_three max_four min_four
theorem ret_slice {a : Option Addr} {n m c : Nat} (h : n = m) : Ending.returned (.slice a n c) = .returned (.slice a m c) := by rw [h]
theorem early_any (a : Option Addr) (n c : Nat) (hn : n ≤ c) (hc : c ≤ maxLen) (w : World) : Calls Try.prog 16 #[.slice a n c] w fun e w' => e = .returned (.slice a (min n 100) c) ∧ w = w' := by
  unfold maxLen at hc
  by_cases h : 100 < n
  · have h1 : min n 100 = 100 := by omega
    rw [h1]
    have h2 : ((if (100 : Int) < (n : Int) then (100 : Int) else (n : Int)) = 100) := if_pos (by omega)
    clear h1
    go_enter Try.func16, Try.ntmps16
    go_wp2
    go_ret
    exact ⟨rfl, rfl⟩
  · have h1 : min n 100 = n := by omega
    rw [h1]
    have h2 : ((if (100 : Int) < (n : Int) then (100 : Int) else (n : Int)) = n) := if_neg (by omega)
    clear h1
    go_enter Try.func16, Try.ntmps16
    go_wp2
    go_ret
    exact ⟨rfl, rfl⟩
theorem nil_take (r : Int) (w : World) : Calls Try.prog 10 #[.pointer none, .int .i64 r] w fun e w' => e = .returned (.bool false) ∧ w = w' := by
  go_enter Try.func10, Try.ntmps10
  go_wp2_with (first | (go_at_call 11; refine (nil_tokens _ _).mono ?_; rintro e w' ⟨rfl, rfl⟩))
  go_ret
  exact ⟨rfl, rfl⟩
theorem nil_wait (r : Int) (w : World) : Calls Try.prog 13 #[.pointer none, .int .i64 r] w fun e w' => e = .returned (.tuple #[.int .i64 0, .bool false]) ∧ w = w' := by
  go_enter Try.func13, Try.ntmps13
  go_wp2_with (first | (go_at_call 11; refine (nil_tokens _ _).mono ?_; rintro e w' ⟨rfl, rfl⟩))
  go_ret2
  exact ⟨rfl, rfl⟩
theorem nil_round (w : World) : Calls Try.prog 12 #[.pointer none] w fun e w' => e = .returned (.int .i64 0) ∧ w = w' := by
  go_enter Try.func12, Try.ntmps12
  go_wp2
  go_ret
  exact ⟨rfl, rfl⟩
theorem nil_rate (w : World) : Calls Try.prog 14 #[.pointer none] w fun e w' => e = .returned (.int .i64 0) ∧ w = w' := by
  go_enter Try.func14, Try.ntmps14
  go_wp2
  go_ret
  exact ⟨rfl, rfl⟩
theorem nil_cap (w : World) : Calls Try.prog 15 #[.pointer none] w fun e w' => e = .returned (.int .i64 0) ∧ w = w' := by
  go_enter Try.func15, Try.ntmps15
  go_wp2
  go_ret
  exact ⟨rfl, rfl⟩
theorem nil_reset (r : Int) (w : World) : Calls Try.prog 23 #[.pointer none, .int .i64 r] w fun e w' => e = .returned (.tuple #[]) ∧ w = w' := by
  go_enter Try.func23, Try.ntmps23
  go_wp2
  exact bodyPost_ret (results_none rfl _ _ _) rfl ⟨rfl, rfl⟩
/-- Take, at each step's round, one behind the other. -/
def run (L : Nat → Nat → Int) (B : Bk) : Nat → Bk
  | 0 => B
  | k + 1 => take (run L B k) (L k 1)
theorem run_ok {L : Nat → Nat → Int} {B : Bk} (h : B.Ok) (k : Nat) : (run L B k).Ok := by
  induction k with
  | zero => exact h
  | succ k ih => exact take_ok ih _
set_option maxHeartbeats 2000000 in
set_option maxRecDepth 100000 in
theorem resets_any (rate cap : Int) (a : Option Addr) (n c : Nat) (L : Nat → Nat → Int) (hn : n ≤ c) (hc : c ≤ maxLen) (w : World) (hL : IntRows w a n 2 L) :
    Calls Try.prog 7 #[.int .i64 rate, .int .i64 cap, .slice a n c] w fun e w' => e = .returned (.bool true) ∧ Below w.heap.size w w' := by
  have OK := Aside0.mk (make_ok rate cap)
  have HE := fun w => early_any a n c hn hc w
  have hm : min n 100 ≤ 100 := by omega
  have HL := Aside0.mk (hL.less (m := min n 100) (by omega))
  have hml : min n 100 ≤ n := by omega
  unfold maxLen at hc
  generalize min n 100 = m at HE hm HL hml
  have HEE := Aside0.mk HE
  clear HE hL
  go_enter Try.func7, Try.ntmps7
  go_wp2_with (first | (go_at_call 8; refine (lives_any _).mono ?_; rintro e w1 ⟨rfl, hb⟩; have HW1 := Aside0.mk hb; clear hb) | (go_at_call 9; refine (new_any _ _ _).mono ?_; rintro e w' ⟨rfl, rfl⟩) | (go_at_call 16; refine (HEE.out _).mono ?_; rintro e w' ⟨rfl, rfl⟩))
  have B0 := Aside0.mk (show BK (w1.alloc (.cells #[.int .i64 (make rate cap).rate, .int .i64 (make rate cap).cap, .int .i64 (make rate cap).tok, .int .i64 (make rate cap).rnd] 49)) w1.heap.size (make rate cap) by simpa [BK] using heap_alloc_new w1 _)
  have W0 := Aside0.mk (below_alloc HW1.out (.cells #[.int .i64 (make rate cap).rate, .int .i64 (make rate cap).cap, .int .i64 (make rate cap).tok, .int .i64 (make rate cap).rnd] 49))
  have LE := Aside0.mk HW1.out.size
  go_loopw [8] (fun i wr => ∃ k : Nat, k ≤ m ∧ i = .int .i64 k ∧ Aside0 (BK wr w1.heap.size (run L (make rate cap) k)) ∧ Aside0 (Below w.heap.size w wr)) (fun i _ => m - (intOf i).toNat)
  case atStart => exact ⟨0, by omega, rfl, B0, W0⟩
  case round =>
    clear B0 W0
    obtain ⟨k, hk, rfl, HB, HW⟩ := hrel
    by_cases hlt : k < m
    · have HC := Aside0.mk (take_any (run_ok OK.out k) (L k 1) HB.out)
      obtain ⟨bs, off, rfl, hcell⟩ := (HL.out.below HW.out).at_ hlt
      have c1 := hcell 1 (by omega)
      clear hcell
      go_wp2_with (first | (go_at_call 10; refine HC.out.mono ?_; clear HC; rintro e w2 ⟨rfl, hb, hg⟩; have HB2 := Aside0.mk hb; have HW2 := Aside0.mk (below_bk HW.out LE.out hg); clear hb hg))
      go_roundw
      case rel => exact ⟨k + 1, by omega, by go_num, HB2, HW2⟩
      case measure => simp [intOf]; omega
    · obtain rfl : k = m := by omega
      obtain ⟨B, hB⟩ : ∃ B, run L (make rate cap) k = B := ⟨_, rfl⟩
      have okB : B.Ok := by rw [← hB]; exact run_ok OK.out k
      rw [hB] at HB
      have n0 := okB.n0
      have n1 := okB.n1
      have cs : come B B.rnd = B := come_old (by rw [cut_in n0 n1]; exact Int.le_refl _)
      have rs : reset B B.rnd = { B with tok := B.cap } := by unfold reset; rw [cs]
      have cs2 : come { B with tok := B.cap } B.rnd = { B with tok := B.cap } := come_old (by rw [cut_in n0 n1]; exact Int.le_refl _)
      have c1 := round_any HB.out
      have c2 := reset_any okB B.rnd HB.out
      rw [rs] at c2
      have ok2 : ({ B with tok := B.cap } : Bk).Ok := by rw [← rs]; exact reset_ok okB _
      have c3 : ∀ W : World, BK W w1.heap.size { B with tok := B.cap } → Calls Try.prog 11 #[.pointer (some ⟨w1.heap.size, 0, none⟩), .int .i64 B.rnd] W fun e w' => e = .returned (.int .i64 B.cap) ∧ BK w' w1.heap.size { B with tok := B.cap } ∧ W.grownBy w' (some w1.heap.size) := fun W h => by
        have := tokens_any ok2 B.rnd h
        rw [cs2] at this
        exact this
      have c4 : ∀ W : World, BK W w1.heap.size { B with tok := B.cap } → Calls Try.prog 15 #[.pointer (some ⟨w1.heap.size, 0, none⟩)] W fun e w' => e = .returned (.int .i64 B.cap) ∧ W = w' := fun W h => cap_any (B := { B with tok := B.cap }) h
      have c5 : ∀ W : World, BK W w1.heap.size { B with tok := B.cap } → Calls Try.prog 12 #[.pointer (some ⟨w1.heap.size, 0, none⟩)] W fun e w' => e = .returned (.int .i64 B.rnd) ∧ W = w' := fun W h => round_any (B := { B with tok := B.cap }) h
      have C1 := Aside0.mk c1
      have C2 := Aside0.mk c2
      have H3 := Aside0.mk c3
      have H4 := Aside0.mk c4
      have H5 := Aside0.mk c5
      clear hB cs rs cs2 c1 c2 c3 c4 c5 ok2 okB hlt
      go_wp2_with (first
        | (go_at_call 12; refine C1.out.mono ?_; clear C1; rintro e w2 ⟨rfl, rfl⟩)
        | (go_at_call 23; refine C2.out.mono ?_; clear C2; rintro e w3 ⟨rfl, hb, hg⟩; have HW3 := Aside0.mk (below_bk HW.out LE.out hg); have HB3 := Aside0.mk hb; clear hb hg; have C3 := Aside0.mk (H3.out _ HB3.out))
        | (go_at_call 23; refine (nil_reset _ _).mono ?_; rintro e w' ⟨rfl, rfl⟩)
        | (go_at_call 13; refine (nil_wait _ _).mono ?_; rintro e w' ⟨rfl, rfl⟩)
        | (go_at_call 11; refine C3.out.mono ?_; clear C3; rintro e w4 ⟨rfl, hb, hg⟩; have HW4 := Aside0.mk (below_bk HW3.out LE.out hg); have HB4 := Aside0.mk hb; clear hb hg; have C4 := Aside0.mk (H4.out _ HB4.out); have C5 := Aside0.mk (H5.out _ HB4.out))
        | (go_at_call 15; refine C4.out.mono ?_; clear C4; rintro e w5 ⟨rfl, rfl⟩)
        | (go_at_call 12; refine C5.out.mono ?_; clear C5; rintro e w6 ⟨rfl, rfl⟩)
        | (go_at_call 11; refine (nil_tokens _ _).mono ?_; rintro e w' ⟨rfl, rfl⟩)
        | (go_at_call 12; refine (nil_round _).mono ?_; rintro e w' ⟨rfl, rfl⟩)
        | (go_at_call 14; refine (nil_rate _).mono ?_; rintro e w' ⟨rfl, rfl⟩)
        | (go_at_call 15; refine (nil_cap _).mono ?_; rintro e w' ⟨rfl, rfl⟩)
        | (go_at_call 10; refine (nil_take _ _).mono ?_; rintro e w' ⟨rfl, rfl⟩))
      go_ret
      exact ⟨rfl, HW4.out⟩
end Go.Proofs.Ytpjjienjfbimjaa.Bk
