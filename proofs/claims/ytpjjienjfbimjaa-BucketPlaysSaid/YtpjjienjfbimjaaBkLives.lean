/- The head of the laws of layer 11: the document's example holds. -/
import Derived.Test.YtpjjienjfbimjaaBk
set_option linter.unusedVariables false
set_option linter.unusedSimpArgs false
namespace Go.Proofs.Ytpjjienjfbimjaa.Bk
open Go.RowKit Go.Proofs.YtpjjienjfbimjaaW.PrintWords Go.Proofs.YtpjjienjfbimjaaW.PrintLast Go.Proofs.YtpjjienjfbimjaaW.PrintMore Go.Proofs.Ytpjjienjfbimjaa.Sat

/-- k calls of Take at one round, from a bucket and a count on. -/
def takes (r d : Int) (B : Bk) (n : Int) : Nat → Bk × Int
  | 0 => (B, n)
  | k + 1 => (take (takes r d B n k).1 r, if took (takes r d B n k).1 r = true then (takes r d B n k).2 + d else (takes r d B n k).2)
theorem takes_ok {B : Bk} (h : B.Ok) (r d n : Int) (k : Nat) : (takes r d B n k).1.Ok := by
  induction k with
  | zero => exact h
  | succ k ih => exact take_ok ih r
theorem takes_bd (r d : Int) (hd : 0 ≤ d) (B : Bk) (n : Int) (k : Nat) : n ≤ (takes r d B n k).2 ∧ (takes r d B n k).2 ≤ n + d * k := by
  induction k with
  | zero => simp [takes]
  | succ k ih =>
    have e : d * ((k + 1 : Nat) : Int) = d * k + d := by rw [Int.natCast_add, Int.mul_add]; simp
    simp only [takes]
    rw [e]
    split <;> omega
theorem takes_succ_t {r d : Int} {B : Bk} {n : Int} {k : Nat} (h : took (takes r d B n k).1 r = true) : takes r d B n (k + 1) = (take (takes r d B n k).1 r, (takes r d B n k).2 + d) := by
  show (_, if _ then _ else _) = _
  rw [if_pos h]
theorem takes_succ_f {r d : Int} {B : Bk} {n : Int} {k : Nat} (h : took (takes r d B n k).1 r = false) : takes r d B n (k + 1) = (take (takes r d B n k).1 r, (takes r d B n k).2) := by
  show (_, if _ then _ else _) = _
  rw [if_neg (by rw [h]; decide)]
theorem below_bk {w W W' : World} {g : Nat} (h : Below w.heap.size w W) (hg : w.heap.size ≤ g) (k : W.grownBy W' (some g)) : Below w.heap.size w W' :=
  h.grown k h.size (fun j e => by injection e with e; omega)
set_option maxHeartbeats 1000000 in
set_option maxRecDepth 100000 in
theorem lives_any (w : World) : Calls Try.prog 8 #[] w fun e w' => e = .returned (.bool true) ∧ Below w.heap.size w w' := by
  have ok := make_ok 2 3
  have BK0 : BK (w.alloc (.cells #[.int .i64 (make 2 3).rate, .int .i64 (make 2 3).cap, .int .i64 (make 2 3).tok, .int .i64 (make 2 3).rnd] 49)) w.heap.size (make 2 3) := by simpa [BK] using heap_alloc_new w _
  have HB0 := Aside0.mk BK0
  have OK := Aside0.mk ok
  clear ok BK0
  go_enter Try.func8, Try.ntmps8
  go_wp2_with (first | (go_at_call 9; refine (new_any _ _ _).mono ?_; rintro e w' ⟨rfl, rfl⟩))
  go_loopw [2, 3] (fun n i wr => ∃ k : Nat, k ≤ 9 ∧ i = .int .i64 k ∧ n = .int .i64 (takes 0 1 (make 2 3) 0 k).2 ∧ Aside0 (BK wr w.heap.size (takes 0 1 (make 2 3) 0 k).1) ∧ Aside0 (Below w.heap.size w wr)) (fun _ i _ => 9 - (intOf i).toNat)
  case atStart => exact ⟨0, by omega, rfl, rfl, ⟨HB0.out⟩, ⟨below_alloc (Below.refl _ _) _⟩⟩
  case round =>
    obtain ⟨k, hk, rfl, rfl, HB, HW⟩ := hrel
    obtain ⟨b1, b2⟩ := takes_bd 0 1 (by omega) (make 2 3) 0 k
    by_cases hlt : k < 9
    · have HC := Aside0.mk (take_any (takes_ok OK.out 0 1 0 k) 0 HB.out)
      cases ht : took (takes 0 1 (make 2 3) 0 k).1 0 with
      | true =>
        have ES := Aside0.mk (takes_succ_t ht)
        go_wp2_with (first | (go_at_call 10; refine HC.out.mono ?_; rintro e w' ⟨rfl, hb, hg⟩; have HB' := Aside0.mk hb; clear hb; have HG := Aside0.mk hg; clear hg))
        go_roundw
        case rel => exact ⟨k + 1, by omega, by go_num, by rw [ES.out], ⟨by rw [ES.out]; exact HB'.out⟩, ⟨below_bk HW.out (Nat.le_refl _) HG.out⟩⟩
        case measure => simp [intOf]; omega
      | false =>
        have ES := Aside0.mk (takes_succ_f ht)
        go_wp2_with (first | (go_at_call 10; refine HC.out.mono ?_; rintro e w' ⟨rfl, hb, hg⟩; have HB' := Aside0.mk hb; clear hb; have HG := Aside0.mk hg; clear hg))
        go_roundw
        case rel => exact ⟨k + 1, by omega, by go_num, by rw [ES.out], ⟨by rw [ES.out]; exact HB'.out⟩, ⟨below_bk HW.out (Nat.le_refl _) HG.out⟩⟩
        case measure => simp [intOf]; omega
    · obtain rfl : k = 9 := by omega
      have e9 : takes 0 1 (make 2 3) 0 9 = (⟨2, 3, 0, 0⟩, 3) := by decide +kernel
      rw [e9] at HB
      have hn : (takes 0 1 (make 2 3) 0 9).2 = 3 := by rw [e9]
      rw [hn]
      clear hn e9 b1 b2
      have okB : (⟨2, 3, 0, 0⟩ : Bk).Ok := ⟨by decide, by decide, by decide, by decide, by decide, by decide, by decide, by decide⟩
      have ew : waitN ⟨2, 3, 0, 0⟩ 0 = 1 := by decide +kernel
      have ei : waitIs ⟨2, 3, 0, 0⟩ 0 = true := by decide +kernel
      have ec : come ⟨2, 3, 0, 0⟩ 0 = ⟨2, 3, 0, 0⟩ := by decide +kernel
      have hwt := wait_any okB 0 HB.out
      rw [ew, ei, ec] at hwt
      have HWT := Aside0.mk hwt
      have OKB := Aside0.mk okB
      clear hwt ew ei ec okB hlt hk
      obtain ⟨w1, hw1⟩ : ∃ w1 : World, wr = w1 := ⟨_, rfl⟩
      subst hw1
      go_wp2_with (first | (go_at_call 13; refine HWT.out.mono ?_; rintro e w2 ⟨rfl, hb, hg⟩; have HB2 := Aside0.mk hb; clear hb; have HG2 := Aside0.mk hg; clear hg))
      have HW2 := Aside0.mk (below_bk HW.out (Nat.le_refl _) HG2.out)
      go_loopw [2, 6] (fun n i wr => ∃ k : Nat, k ≤ 9 ∧ i = .int .i64 k ∧ n = .int .i64 (takes 1 10 ⟨2, 3, 0, 0⟩ 3 k).2 ∧ Aside0 (BK wr w.heap.size (takes 1 10 ⟨2, 3, 0, 0⟩ 3 k).1) ∧ Aside0 (Below w.heap.size w wr)) (fun _ i _ => 9 - (intOf i).toNat)
      case atStart => exact ⟨0, by omega, rfl, rfl, ⟨HB2.out⟩, HW2⟩
      case round =>
        clear HB HW HB0 HWT HG2 HB2 HW2
        obtain ⟨k, hk, rfl, rfl, HB, HW⟩ := hrel
        obtain ⟨b1, b2⟩ := takes_bd 1 10 (by omega) ⟨2, 3, 0, 0⟩ 3 k
        by_cases hlt : k < 9
        · have HC := Aside0.mk (take_any (takes_ok OKB.out 1 10 3 k) 1 HB.out)
          cases ht : took (takes 1 10 ⟨2, 3, 0, 0⟩ 3 k).1 1 with
          | true =>
            have ES := Aside0.mk (takes_succ_t ht)
            go_wp2_with (first | (go_at_call 10; refine HC.out.mono ?_; rintro e w' ⟨rfl, hb, hg⟩; have HB' := Aside0.mk hb; clear hb; have HG := Aside0.mk hg; clear hg))
            go_roundw
            case rel => exact ⟨k + 1, by omega, by go_num, by rw [ES.out], ⟨by rw [ES.out]; exact HB'.out⟩, ⟨below_bk HW.out (Nat.le_refl _) HG.out⟩⟩
            case measure => simp [intOf]; omega
          | false =>
            have ES := Aside0.mk (takes_succ_f ht)
            go_wp2_with (first | (go_at_call 10; refine HC.out.mono ?_; rintro e w' ⟨rfl, hb, hg⟩; have HB' := Aside0.mk hb; clear hb; have HG := Aside0.mk hg; clear hg))
            go_roundw
            case rel => exact ⟨k + 1, by omega, by go_num, by rw [ES.out], ⟨by rw [ES.out]; exact HB'.out⟩, ⟨below_bk HW.out (Nat.le_refl _) HG.out⟩⟩
            case measure => simp [intOf]; omega
        · obtain rfl : k = 9 := by omega
          have hn : (takes 1 10 ⟨2, 3, 0, 0⟩ 3 9).2 = 23 := by decide +kernel
          rw [hn]
          have em : most 2 3 4 = 11 := by decide +kernel
          have hm := fun w => most_any 2 3 4 w
          simp only [em] at hm
          have HM := Aside0.mk hm
          clear hn em hm b1 b2
          go_wp2_with (first | (go_at_call 17; refine (HM.out _).mono ?_; rintro e w3 ⟨rfl, hb⟩; have HB3 := Aside0.mk hb; clear hb))
          go_ret
          exact ⟨rfl, below_step HW.out HB3.out⟩
end Go.Proofs.Ytpjjienjfbimjaa.Bk
