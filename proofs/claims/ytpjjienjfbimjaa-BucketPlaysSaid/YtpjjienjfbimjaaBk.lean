/- The contracts of layer 11 (bucket): a bucket is one block of four cells; each call answers by the plain functions of XBkMath and turns that block alone. -/
import Derived.Test.YtpjjienjfbimjaaSat
import Derived.Test.YtpjjienjfbimjaaBkMath
set_option linter.unusedVariables false
set_option linter.unusedSimpArgs false
namespace Go.Proofs.Ytpjjienjfbimjaa.Bk
open Go.RowKit Go.Proofs.YtpjjienjfbimjaaW.PrintWords Go.Proofs.YtpjjienjfbimjaaW.PrintLast Go.Proofs.YtpjjienjfbimjaaW.PrintMore Go.Proofs.Ytpjjienjfbimjaa.Sat
attribute [local go_sem] max2_int min2_int max_two min_two max_three min_three max_four min_four

def BK (W : World) (g : Nat) (B : Bk) : Prop := W.heap[g]? = some (.cells #[.int .i64 B.rate, .int .i64 B.cap, .int .i64 B.tok, .int .i64 B.rnd] 49 (0, 0))
theorem BK.kept {W W' : World} {g : Nat} {B : Bk} {row : Option Nat} (h : BK W g B) (hg : W.grownBy W' row) (hne : some g ≠ row) : BK W' g B := blk_grown h hg hne
theorem BK.lt {W : World} {g : Nat} {B : Bk} (h : BK W g B) : g < W.heap.size := blk_lt h
theorem grown_set (w : World) (b i : Nat) (v : Value) : w.grownBy (w.setCell ⟨b, i, none⟩ v) (some b) :=
  ⟨rfl, rfl, rfl, by simp [World.setCell], fun k _ hk => Below.heap_setCell _ _ _ _ (fun e => hk (by rw [e]))⟩
theorem grownBy_trans {a w w' : World} {row : Option Nat} (h : a.grownBy w row) (k : w.grownBy w' row) : a.grownBy w' row := World.grownBy.trans h k
theorem grown_drewN (w : World) (n : Nat) (row : Option Nat) : w.grownBy (w.drewN n) row := ⟨rfl, rfl, rfl, Nat.le_refl _, fun _ _ _ => rfl⟩
theorem come_any {g : Nat} {B : Bk} (ok : B.Ok) (r : Int) {w : World} (h : BK w g B) : Calls Try.prog 24 #[.pointer (some ⟨g, 0, none⟩), .int .i64 r] w fun e w' => e = .returned (.tuple #[]) ∧ BK w' g (come B r) ∧ w.grownBy w' (some g) := by
  obtain ⟨t1, t2⟩ := come_text ok r
  obtain ⟨ra, ca, ta, na⟩ := B
  have H : w.heap[g]? = some (.cells #[.int .i64 ra, .int .i64 ca, .int .i64 ta, .int .i64 na] 49 (0, 0)) := h
  have c0 : w.cell? ⟨g, 0, none⟩ = some (.int .i64 ra) := (blk_cell H 0).trans rfl
  have c1 : w.cell? ⟨g, 1, none⟩ = some (.int .i64 ca) := (blk_cell H 1).trans rfl
  have c2 : w.cell? ⟨g, 2, none⟩ = some (.int .i64 ta) := (blk_cell H 2).trans rfl
  have c3 : w.cell? ⟨g, 3, none⟩ = some (.int .i64 na) := (blk_cell H 3).trans rfl
  have f2 := blk_frozen H 2
  have f3 := blk_frozen H 3
  obtain ⟨m, hm⟩ : ∃ m : Int, (if ca < tadd ta (tmul ra (tsub r na)) then ca else tadd ta (tmul ra (tsub r na))) = m := ⟨_, rfl⟩
  have t1' : m = (come ⟨ra, ca, ta, na⟩ r).tok := by
    rw [← t1, ← hm]
    split <;> simp only [] <;> omega
  have TM := Aside0.mk t1'
  clear t1'
  have HH := Aside0.mk H
  have T1 := Aside0.mk t1
  have T2 := Aside0.mk t2
  have OK := Aside0.mk ok
  clear H h t1 t2 ok
  go_enter Try.func24, Try.ntmps24
  go_wp2_with (first | (go_at_call 28; refine (sub_any _ _ _).mono ?_; rintro e w' ⟨rfl, rfl⟩))
  go_still_tail 19, (by kernel_rfl)
  still_call ((mul_any _ _ _).mono (fun e w' h => ⟨h.1, h.2.symm⟩))
  repeat still_step
  still_call ((add_any _ _ _).mono (fun e w' h => ⟨h.1, h.2.symm⟩))
  repeat still_step
  try refine wpStill_nil ?_
  change wpList _ _ _ _ _ w.drew
  go_wp2_with (first | (go_at_call 25; refine (add_any _ _ _).mono ?_; rintro e w' ⟨rfl, rfl⟩))
  go_end0
  have hb2 : (w.setCell ⟨g, 2, none⟩ (.int .i64 m)).heap[g]? = some (.cells #[.int .i64 ra, .int .i64 ca, .int .i64 m, .int .i64 na] 49 (0, 0)) := blk_put HH.out 2 _ rfl
  have hb3 : ((w.setCell ⟨g, 2, none⟩ (.int .i64 m)).setCell ⟨g, 3, none⟩ (.int .i64 (tadd na (tsub r na)))).heap[g]? = some (.cells #[.int .i64 ra, .int .i64 ca, .int .i64 m, .int .i64 (tadd na (tsub r na))] 49 (0, 0)) := blk_put hb2 3 _ rfl
  refine ⟨rfl, ?_, ?_⟩
  · have e : (come ⟨ra, ca, ta, na⟩ r) = ⟨ra, ca, m, tadd na (tsub r na)⟩ := by
      have e1 := come_rate ⟨ra, ca, ta, na⟩ r
      have e2 := come_cap ⟨ra, ca, ta, na⟩ r
      have e3 := TM.out
      have e4 := T2.out
      revert e1 e2 e3 e4
      generalize come ⟨ra, ca, ta, na⟩ r = Z
      obtain ⟨z1, z2, z3, z4⟩ := Z
      simp only []
      rintro rfl rfl rfl h
      rw [h]
    rw [e]
    exact hb3
  · exact grownBy_trans (grown_set w g 2 _) (grownBy_trans (grown_set _ g 3 _) (grown_drewN _ 1 _))
theorem tokens_any {g : Nat} {B : Bk} (ok : B.Ok) (r : Int) {w : World} (h : BK w g B) : Calls Try.prog 11 #[.pointer (some ⟨g, 0, none⟩), .int .i64 r] w fun e w' => e = .returned (.int .i64 (come B r).tok) ∧ BK w' g (come B r) ∧ w.grownBy w' (some g) := by
  have HC := Aside0.mk (come_any ok r h)
  clear h ok
  go_enter Try.func11, Try.ntmps11
  go_wp2_with (first | (go_at_call 24; refine HC.out.mono ?_; rintro e w' ⟨rfl, hb, hg⟩; have c2 : w'.cell? ⟨g, 2, none⟩ = some (.int .i64 (come B r).tok) := (blk_cell hb 2).trans rfl; have HB := Aside0.mk hb; clear hb; have HG := Aside0.mk hg; clear hg))
  go_ret
  exact ⟨rfl, HB.out, HG.out⟩
theorem take_any {g : Nat} {B : Bk} (ok : B.Ok) (r : Int) {w : World} (h : BK w g B) : Calls Try.prog 10 #[.pointer (some ⟨g, 0, none⟩), .int .i64 r] w fun e w' => e = .returned (.bool (took B r)) ∧ BK w' g (take B r) ∧ w.grownBy w' (some g) := by
  have HC := Aside0.mk (tokens_any ok r h)
  have hk := come_ok ok r
  by_cases c : (come B r).tok = 0
  · have c' : ((come B r).tok == 0) = true := beq_iff_eq.mpr c
    have e1 : took B r = false := by unfold took; simp [c]
    have E1 := Aside0.mk e1
    have E2 := Aside0.mk (take_none c)
    clear h ok hk c e1
    go_enter Try.func10, Try.ntmps10
    go_wp2_with (first | (go_at_call 11; refine HC.out.mono ?_; rintro e w' ⟨rfl, hb, hg⟩; have HB := Aside0.mk hb; clear hb; have HG := Aside0.mk hg; clear hg))
    go_ret
    exact ⟨ret_bool E1.out.symm, by rw [E2.out]; exact HB.out, HG.out⟩
  · have c' : ((come B r).tok == 0) = false := beq_eq_false_iff_ne.mpr c
    have e1 : took B r = true := by unfold took; simp [c]
    have E1 := Aside0.mk e1
    have E2 := Aside0.mk (take_some c)
    obtain ⟨r0, r1, c0, c1, t0, t1, n0, n1⟩ := hk
    have t2 : (come B r).tok ≤ 64 := by omega
    clear h ok c e1 r0 r1 c0 c1 n0 n1 t1
    go_enter Try.func10, Try.ntmps10
    go_wp2_with (first | (go_at_call 11; refine HC.out.mono ?_; rintro e w' ⟨rfl, hb, hg⟩; have c2 : w'.cell? ⟨g, 2, none⟩ = some (.int .i64 (come B r).tok) := (blk_cell hb 2).trans rfl; have f2 := blk_frozen hb 2; have HB := Aside0.mk hb; clear hb; have HG := Aside0.mk hg; clear hg))
    go_ret
    refine ⟨ret_bool E1.out.symm, ?_, grownBy_trans HG.out (grown_set _ g 2 _)⟩
    rw [E2.out]
    exact blk_put HB.out 2 _ rfl
theorem wait_any {g : Nat} {B : Bk} (ok : B.Ok) (r : Int) {w : World} (h : BK w g B) : Calls Try.prog 13 #[.pointer (some ⟨g, 0, none⟩), .int .i64 r] w fun e w' => e = .returned (.tuple #[.int .i64 (waitN B r), .bool (waitIs B r)]) ∧ BK w' g (come B r) ∧ w.grownBy w' (some g) := by
  have HC := Aside0.mk (tokens_any ok r h)
  have hk := come_ok ok r
  have hr := come_rate B r
  by_cases c : 0 < (come B r).tok
  · have c' : decide (0 < (come B r).tok) = true := decide_eq_true c
    have e1 : waitN B r = (come B r).rnd := by unfold waitN; rw [if_pos c]
    have e2 : waitIs B r = true := by unfold waitIs; rw [if_pos c]
    rw [e1, e2]
    clear h ok hk hr c e1 e2
    go_enter Try.func13, Try.ntmps13
    go_wp2_with (first | (go_at_call 11; refine HC.out.mono ?_; rintro e w' ⟨rfl, hb, hg⟩; have c3 : w'.cell? ⟨g, 3, none⟩ = some (.int .i64 (come B r).rnd) := (blk_cell hb 3).trans rfl; have HB := Aside0.mk hb; clear hb; have HG := Aside0.mk hg; clear hg))
    go_ret2
    exact ⟨rfl, HB.out, HG.out⟩
  · have c' : decide (0 < (come B r).tok) = false := decide_eq_false c
    by_cases cr : B.rate = 0
    · have cr' : ((come B r).rate == 0) = true := beq_iff_eq.mpr (hr.trans cr)
      have e1 : waitN B r = 0 := by unfold waitN; rw [if_neg c, if_pos (.inl cr)]
      have e2 : waitIs B r = false := by unfold waitIs; rw [if_neg c, if_pos (.inl cr)]
      rw [e1, e2]
      clear h ok hk hr c e1 e2 cr
      go_enter Try.func13, Try.ntmps13
      go_wp2_with (first | (go_at_call 11; refine HC.out.mono ?_; rintro e w' ⟨rfl, hb, hg⟩; have c0 : w'.cell? ⟨g, 0, none⟩ = some (.int .i64 (come B r).rate) := (blk_cell hb 0).trans rfl; have c3 : w'.cell? ⟨g, 3, none⟩ = some (.int .i64 (come B r).rnd) := (blk_cell hb 3).trans rfl; have HB := Aside0.mk hb; clear hb; have HG := Aside0.mk hg; clear hg))
      go_ret2
      exact ⟨rfl, HB.out, HG.out⟩
    · have cr' : ((come B r).rate == 0) = false := beq_eq_false_iff_ne.mpr (by rw [hr]; exact cr)
      by_cases cn : (come B r).rnd = 4611686018427387904
      · have cn' : ((come B r).rnd == 4611686018427387904) = true := beq_iff_eq.mpr cn
        have e1 : waitN B r = 0 := by unfold waitN; rw [if_neg c, if_pos (.inr cn)]
        have e2 : waitIs B r = false := by unfold waitIs; rw [if_neg c, if_pos (.inr cn)]
        rw [e1, e2]
        clear h ok hk hr c e1 e2 cr cn
        go_enter Try.func13, Try.ntmps13
        go_wp2_with (first | (go_at_call 11; refine HC.out.mono ?_; rintro e w' ⟨rfl, hb, hg⟩; have c0 : w'.cell? ⟨g, 0, none⟩ = some (.int .i64 (come B r).rate) := (blk_cell hb 0).trans rfl; have c3 : w'.cell? ⟨g, 3, none⟩ = some (.int .i64 (come B r).rnd) := (blk_cell hb 3).trans rfl; have HB := Aside0.mk hb; clear hb; have HG := Aside0.mk hg; clear hg))
        go_ret2
        exact ⟨rfl, HB.out, HG.out⟩
      · have cn' : ((come B r).rnd == 4611686018427387904) = false := beq_eq_false_iff_ne.mpr cn
        have e1 : waitN B r = (come B r).rnd + 1 := by unfold waitN; rw [if_neg c, if_neg (by omega)]
        have e2 : waitIs B r = true := by unfold waitIs; rw [if_neg c, if_neg (by omega)]
        rw [e1, e2]
        obtain ⟨_, _, _, _, _, _, n0, n1⟩ := hk
        clear h ok hr c e1 e2 cr cn
        go_enter Try.func13, Try.ntmps13
        go_wp2_with (first | (go_at_call 11; refine HC.out.mono ?_; rintro e w' ⟨rfl, hb, hg⟩; have c0 : w'.cell? ⟨g, 0, none⟩ = some (.int .i64 (come B r).rate) := (blk_cell hb 0).trans rfl; have c3 : w'.cell? ⟨g, 3, none⟩ = some (.int .i64 (come B r).rnd) := (blk_cell hb 3).trans rfl; have HB := Aside0.mk hb; clear hb; have HG := Aside0.mk hg; clear hg))
        go_ret2
        exact ⟨rfl, HB.out, HG.out⟩
theorem round_any {g : Nat} {B : Bk} {w : World} (h : BK w g B) : Calls Try.prog 12 #[.pointer (some ⟨g, 0, none⟩)] w fun e w' => e = .returned (.int .i64 B.rnd) ∧ w = w' := by
  have c3 : w.cell? ⟨g, 3, none⟩ = some (.int .i64 B.rnd) := (blk_cell h 3).trans rfl
  clear h
  go_enter Try.func12, Try.ntmps12
  go_wp2
  go_ret
  exact ⟨rfl, rfl⟩
theorem rate_any {g : Nat} {B : Bk} {w : World} (h : BK w g B) : Calls Try.prog 14 #[.pointer (some ⟨g, 0, none⟩)] w fun e w' => e = .returned (.int .i64 B.rate) ∧ w = w' := by
  have c0 : w.cell? ⟨g, 0, none⟩ = some (.int .i64 B.rate) := (blk_cell h 0).trans rfl
  clear h
  go_enter Try.func14, Try.ntmps14
  go_wp2
  go_ret
  exact ⟨rfl, rfl⟩
theorem cap_any {g : Nat} {B : Bk} {w : World} (h : BK w g B) : Calls Try.prog 15 #[.pointer (some ⟨g, 0, none⟩)] w fun e w' => e = .returned (.int .i64 B.cap) ∧ w = w' := by
  have c1 : w.cell? ⟨g, 1, none⟩ = some (.int .i64 B.cap) := (blk_cell h 1).trans rfl
  clear h
  go_enter Try.func15, Try.ntmps15
  go_wp2
  go_ret
  exact ⟨rfl, rfl⟩
theorem reset_any {g : Nat} {B : Bk} (ok : B.Ok) (r : Int) {w : World} (h : BK w g B) : Calls Try.prog 23 #[.pointer (some ⟨g, 0, none⟩), .int .i64 r] w fun e w' => e = .returned (.tuple #[]) ∧ BK w' g (reset B r) ∧ w.grownBy w' (some g) := by
  have HC := Aside0.mk (come_any ok r h)
  clear h ok
  go_enter Try.func23, Try.ntmps23
  go_wp2_with (first | (go_at_call 24; refine HC.out.mono ?_; rintro e w' ⟨rfl, hb, hg⟩; have c1 : w'.cell? ⟨g, 1, none⟩ = some (.int .i64 (come B r).cap) := (blk_cell hb 1).trans rfl; have c2 : w'.cell? ⟨g, 2, none⟩ = some (.int .i64 (come B r).tok) := (blk_cell hb 2).trans rfl; have f2 := blk_frozen hb 2; have HB := Aside0.mk hb; clear hb; have HG := Aside0.mk hg; clear hg))
  go_end0
  exact ⟨rfl, blk_put HB.out 2 _ rfl, grownBy_trans HG.out (grown_set _ g 2 _)⟩
theorem new_any (rate cap : Int) (w : World) : Calls Try.prog 9 #[.int .i64 rate, .int .i64 cap] w fun e w' => e = .returned (.pointer (some ⟨w.heap.size, 0, none⟩)) ∧ w' = w.alloc (.cells #[.int .i64 (make rate cap).rate, .int .i64 (make rate cap).cap, .int .i64 (make rate cap).tok, .int .i64 (make rate cap).rnd] 49) := by
  obtain ⟨a, ha⟩ : ∃ a : Int, (if rate < 0 then 0 else rate) = a := ⟨_, rfl⟩
  obtain ⟨b, hb⟩ : ∃ b : Int, (if 64 < a then 64 else a) = b := ⟨_, rfl⟩
  obtain ⟨c, hc⟩ : ∃ c : Int, (if cap < 1 then 1 else cap) = c := ⟨_, rfl⟩
  obtain ⟨d, hd⟩ : ∃ d : Int, (if 64 < c then 64 else c) = d := ⟨_, rfl⟩
  have e : make rate cap = ⟨b, d, d, 0⟩ := by
    have e1 : b = min (max rate 0) 64 := by
      rw [← hb, ← ha]
      split <;> split <;> omega
    have e2 : d = min (max cap 1) 64 := by
      rw [← hd, ← hc]
      split <;> split <;> omega
    unfold make
    rw [e1, e2]
  rw [e]
  clear e
  go_enter Try.func9, Try.ntmps9
  go_wp2
  go_ret
  exact ⟨rfl, rfl⟩
theorem most_any (rate cap rounds : Int) (w : World) : Calls Try.prog 17 #[.int .i64 rate, .int .i64 cap, .int .i64 rounds] w fun e w' => e = .returned (.int .i64 (most rate cap rounds)) ∧ Below w.heap.size w w' := by
  go_enter Try.func17, Try.ntmps17
  go_wp2_with (first | (go_at_call 9; refine (new_any _ _ _).mono ?_; rintro e w' ⟨rfl, rfl⟩))
  go_quiet ((first | (go_at_call 26; exact Calls.quiet_of_same ((mul_any _ _ _).mono (fun e w' h => ⟨h.1, h.2.symm⟩))) | (go_at_call 25; exact Calls.quiet_of_same ((add_any _ _ _).mono (fun e w' h => ⟨h.1, h.2.symm⟩)))))
  go_wp2
  go_ret
  refine ⟨rfl, ?_⟩
  repeat (first | exact Below.refl _ _ | apply below_alloc | apply pw_below_drewN | apply below_drew)
/-! On nil -/
theorem nil_tokens (r : Int) (w : World) : Calls Try.prog 11 #[.pointer none, .int .i64 r] w fun e w' => e = .returned (.int .i64 0) ∧ w = w' := by
  go_enter Try.func11, Try.ntmps11
  go_wp2
  go_ret
  exact ⟨rfl, rfl⟩
end Go.Proofs.Ytpjjienjfbimjaa.Bk
