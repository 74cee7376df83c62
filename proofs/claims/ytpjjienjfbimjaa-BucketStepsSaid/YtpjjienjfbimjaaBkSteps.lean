/- The walk of BucketSteps. -/
import Derived.Test.YtpjjienjfbimjaaBkLives
set_option linter.unusedVariables false
set_option linter.unusedSimpArgs false
namespace Go.Proofs.Ytpjjienjfbimjaa.Bk
open Go.RowKit Go.Proofs.YtpjjienjfbimjaaW.PrintWords Go.Proofs.YtpjjienjfbimjaaW.PrintLast Go.Proofs.YtpjjienjfbimjaaW.PrintMore Go.Proofs.Ytpjjienjfbimjaa.Sat
theorem takes_rnd (r d : Int) (hr : cut r = 0) {B : Bk} (n : Int) (hB : B.rnd = 0) (k : Nat) : (takes r d B n k).1.rnd = 0 := by
  induction k with
  | zero => exact hB
  | succ k ih =>
    show (take (takes r d B n k).1 r).rnd = 0
    rw [take_rnd, ih, hr]
    rfl
structure Two (w W : World) (bx ga gb : Nat) (cs : Array Value) (A B : Bk) : Prop where
  a : BK W ga A
  b : BK W gb B
  box : W.heap[bx]? = some (.cells cs 22 (0, 0))
  bel : Below w.heap.size w W
  ne : ga ≠ gb
  nxa : bx ≠ ga
  nxb : bx ≠ gb
  la : w.heap.size ≤ ga
  lb : w.heap.size ≤ gb
theorem Two.onA {w W W' : World} {bx ga gb : Nat} {cs : Array Value} {A B A' : Bk} (h : Two w W bx ga gb cs A B) (hb : BK W' ga A') (hg : W.grownBy W' (some ga)) : Two w W' bx ga gb cs A' B :=
  ⟨hb, h.b.kept hg (fun e => h.ne (by injection e with e; exact e.symm)), blk_grown h.box hg (fun e => h.nxa (by injection e with e)), below_bk h.bel h.la hg, h.ne, h.nxa, h.nxb, h.la, h.lb⟩
theorem Two.onB {w W W' : World} {bx ga gb : Nat} {cs : Array Value} {A B B' : Bk} (h : Two w W bx ga gb cs A B) (hb : BK W' gb B') (hg : W.grownBy W' (some gb)) : Two w W' bx ga gb cs A B' :=
  ⟨h.a.kept hg (fun e => h.ne (by injection e with e)), hb, blk_grown h.box hg (fun e => h.nxb (by injection e with e)), below_bk h.bel h.lb hg, h.ne, h.nxa, h.nxb, h.la, h.lb⟩
theorem two_new {w w1 : World} {cs : Array Value} (M : Bk) (HW : Below (w.heap.size + 1) (w.alloc (.cells cs 22)) w1) :
    Two w ((w1.alloc (.cells #[.int .i64 M.rate, .int .i64 M.cap, .int .i64 M.tok, .int .i64 M.rnd] 49)).alloc (.cells #[.int .i64 M.rate, .int .i64 M.cap, .int .i64 M.tok, .int .i64 M.rnd] 49)) w.heap.size w1.heap.size (w1.heap.size + 1) cs M M := by
  have hs : w.heap.size + 1 ≤ w1.heap.size := by simpa using HW.size
  have b1 : w1.heap[w.heap.size]? = some (.cells cs 22 (0, 0)) := (HW.block w.heap.size (by omega)).trans (by simpa using heap_alloc_new w _)
  have hw : Below w.heap.size w w1 := (below_alloc (Below.refl _ _) _).trans (HW.mono (by omega))
  refine ⟨?_, ?_, ?_, ?_, by omega, by omega, by omega, by omega, by omega⟩
  · exact blk_alloc (by simpa using heap_alloc_new w1 _) _
  · have := heap_alloc_new (w1.alloc (.cells #[.int .i64 M.rate, .int .i64 M.cap, .int .i64 M.tok, .int .i64 M.rnd] 49)) (.cells #[.int .i64 M.rate, .int .i64 M.cap, .int .i64 M.tok, .int .i64 M.rnd] 49)
    simpa [BK] using this
  · exact blk_alloc (blk_alloc b1 _) _
  · exact below_alloc (below_alloc hw _) _
set_option maxHeartbeats 2000000 in
set_option maxRecDepth 100000 in
theorem steps_any (rate cap x0 x1 x2 : Int) (w : World) : Calls Try.prog 3 #[.int .i64 rate, .int .i64 cap, .agg #[.int .i64 x0, .int .i64 x1, .int .i64 x2]] w fun e w' => e = .returned (.bool true) ∧ Below w.heap.size w w' := by
  obtain ⟨K, hK⟩ : ∃ K : Nat, (K : Int) = x0 % 18446744073709551616 % 70 := ⟨(x0 % 18446744073709551616 % 70).toNat, by omega⟩
  obtain ⟨n, hn⟩ : ∃ n : Nat, (n : Int) = x1 % 18446744073709551616 % 100 := ⟨(x1 % 18446744073709551616 % 100).toNat, by omega⟩
  obtain ⟨hc0, hc1, hc2⟩ := um x2 100 (by omega) (by omega)
  have K2 : K < 70 := by omega
  have n2 : n < 100 := by omega
  have c1 : 0 ≤ wrap64 (Int.tmod (IntKind.u64.wrap x2) 100) := by omega
  have c2 : wrap64 (Int.tmod (IntKind.u64.wrap x2) 100) < 100 := by omega
  have hK' : wrap64 (Int.tmod (IntKind.u64.wrap x0) 70) = K := by rw [(um x0 70 (by omega) (by omega)).1, hK]
  have hn' : wrap64 (Int.tmod (IntKind.u64.wrap x1) 100) = n := by rw [(um x1 100 (by omega) (by omega)).1, hn]
  have HK := Aside0.mk hK'
  have HN := Aside0.mk hn'
  clear hK hK' hn hn' hc0 hc1 hc2
  have OK := Aside0.mk (make_ok rate cap)
  have RN : (make rate cap).rnd = 0 := rfl
  have HRN := Aside0.mk RN
  clear RN
  go_enter Try.func3, Try.ntmps3
  go_wp2_with (first | (go_at_call 8; refine (lives_any _).mono ?_; rintro e w1 ⟨rfl, hb⟩; have HW1 := Aside0.mk hb; clear hb) | (go_at_call 9; refine (new_any _ _ _).mono ?_; rintro e w' ⟨rfl, rfl⟩))
  have T0 := Aside0.mk (two_new (make rate cap) (cs := #[.int .i64 x0, .int .i64 x1, .int .i64 x2]) (by simpa using HW1.out))
  have r0 : cut 0 = 0 := by decide +kernel
  have HR0 := Aside0.mk r0
  clear r0
  go_loopw [9] (fun i wr => ∃ k : Nat, k ≤ K ∧ i = .int .i64 k ∧ Aside0 (Two w wr w.heap.size w1.heap.size (w1.heap.size + 1) #[.int .i64 x0, .int .i64 x1, .int .i64 x2] (takes 0 0 (make rate cap) 0 k).1 (takes 0 0 (make rate cap) 0 k).1)) (fun i _ => K - (intOf i).toNat)
  case atStart => exact ⟨0, by omega, rfl, T0⟩
  case round =>
    clear T0
    obtain ⟨k, hk, rfl, HT⟩ := hrel
    have okk := Aside0.mk (takes_ok OK.out 0 0 0 k)
    have e0 : wr.cell? ⟨w.heap.size, 0, none⟩ = some (.int .i64 x0) := (blk_cell HT.out.box 0).trans rfl
    have e1 : wr.cell? ⟨w.heap.size, 1, none⟩ = some (.int .i64 x1) := (blk_cell HT.out.box 1).trans rfl
    have hKK : wrap64 (Int.tmod (IntKind.u64.wrap x0) 70) = K := HK.out
    by_cases hlt : k < K
    · have CA := Aside0.mk (take_any okk.out 0 HT.out.a)
      go_wp2_with (first | (go_at_call 10; refine CA.out.mono ?_; clear CA e0 e1 hKK; rintro e w2 ⟨rfl, hb, hg⟩; have HT2 := Aside0.mk (HT.out.onA hb hg); clear hb hg; have CB := Aside0.mk (take_any okk.out 0 HT2.out.b)) | (go_at_call 10; refine CB.out.mono ?_; clear CB; rintro e w3 ⟨rfl, hb, hg⟩; have HT3 := Aside0.mk (HT2.out.onB hb hg); clear hb hg))
      go_roundw
      case rel => exact ⟨k + 1, by omega, by go_num, HT3⟩
      case measure => simp [intOf]; omega
    · obtain rfl : k = K := by omega
      have hnn : wrap64 (Int.tmod (IntKind.u64.wrap x1) 100) = n := HN.out
      obtain ⟨T, hT⟩ : ∃ T, (takes 0 0 (make rate cap) 0 k).1 = T := ⟨_, rfl⟩
      have hr : T.rnd = 0 := by rw [← hT]; exact takes_rnd 0 0 HR0.out 0 HRN.out k
      rw [hT] at HT okk
      have HTR := Aside0.mk hr
      clear hT hr hnn
      go_wp2
      rw [HN.out]
      obtain ⟨w4, hw4⟩ : ∃ w4 : World, wr = w4 := ⟨_, rfl⟩
      subst hw4
      go_loopw [11] (fun i wr => ∃ j : Nat, j ≤ n + 1 ∧ i = .int .i64 j ∧ Aside0 (Two w wr w.heap.size w1.heap.size (w1.heap.size + 1) #[.int .i64 x0, .int .i64 x1, .int .i64 x2] T (comes T j))) (fun i _ => n + 1 - (intOf i).toNat)
      case atStart => exact ⟨0, by omega, rfl, HT⟩
      case round =>
        clear HT e0 e1 hKK hlt hk
        obtain ⟨j, hj, rfl, HT⟩ := hrel
        by_cases hlt : j ≤ n
        · have CB := Aside0.mk (tokens_any (comes_ok okk.out j) j HT.out.b)
          go_wp2_with (first | (go_at_call 11; refine CB.out.mono ?_; clear CB; rintro e w5 ⟨rfl, hb, hg⟩; have HT5 := Aside0.mk (HT.out.onB hb hg); clear hb hg))
          go_roundw
          case rel => exact ⟨j + 1, by omega, by go_num, HT5⟩
          case measure => simp [intOf]; omega
        · obtain rfl : j = n + 1 := by omega
          have ec : comes T (n + 1) = come T n := comes_eq okk.out n (by omega)
          have okn := come_ok okk.out n
          have hrn : (come T n).rnd = n := by rw [come_rnd, HTR.out, cut_in (by omega) (by omega)]; omega
          have e2 : (wr.cell? ⟨w.heap.size, 2, none⟩ = some (.int .i64 x2)) := (blk_cell HT.out.box 2).trans rfl
          have back : ∀ r : Int, cut r ≤ n → come (come T n) r = come T n := fun r h => come_old (by rw [hrn]; exact h)
          have bn : come (come T n) n = come T n := back n (by rw [cut_in (by omega) (by omega)]; exact Int.le_refl _)
          have bc : come (come T n) ((n : Int) - wrap64 (Int.tmod (IntKind.u64.wrap x2) 100) - 1) = come T n := back _ (by unfold cut; split; (· omega); split <;> omega)
          rw [ec] at HT
          have CA := Aside0.mk (tokens_any okk.out n HT.out.a)
          have OKN := Aside0.mk okn
          have HRN2 := Aside0.mk hrn
          have BN := Aside0.mk bn
          have BC := Aside0.mk bc
          clear ec okn hrn back bn bc hlt hj
          have st2 : ∀ (W : World), BK W (w1.heap.size + 1) (come T n) → Calls Try.prog 11 #[.pointer (some ⟨w1.heap.size + 1, 0, none⟩), .int .i64 n] W fun e w' => e = .returned (.int .i64 (come T n).tok) ∧ BK w' (w1.heap.size + 1) (come T n) ∧ W.grownBy w' (some (w1.heap.size + 1)) := fun W h => by
            have := tokens_any OKN.out n h
            rw [BN.out] at this
            exact this
          have st3 : ∀ (W : World), BK W w1.heap.size (come T n) → Calls Try.prog 11 #[.pointer (some ⟨w1.heap.size, 0, none⟩), .int .i64 ((n : Int) - wrap64 (Int.tmod (IntKind.u64.wrap x2) 100) - 1)] W fun e w' => e = .returned (.int .i64 (come T n).tok) ∧ BK w' w1.heap.size (come T n) ∧ W.grownBy w' (some w1.heap.size) := fun W h => by
            have := tokens_any OKN.out ((n : Int) - wrap64 (Int.tmod (IntKind.u64.wrap x2) 100) - 1) h
            rw [BC.out] at this
            exact this
          have st4 : ∀ (W : World), BK W w1.heap.size (come T n) → Calls Try.prog 12 #[.pointer (some ⟨w1.heap.size, 0, none⟩)] W fun e w' => e = .returned (.int .i64 n) ∧ W = w' := fun W h => by
            have := round_any h
            rw [HRN2.out] at this
            exact this
          have ST2 := Aside0.mk st2
          have ST3 := Aside0.mk st3
          have ST4 := Aside0.mk st4
          clear st2 st3 st4
          go_wp2_with (first
            | (go_at_call 11; refine CA.out.mono ?_; clear CA e2; rintro e w5 ⟨rfl, hb, hg⟩; have HT5 := Aside0.mk (HT.out.onA hb hg); clear hb hg; have CB := Aside0.mk (ST2.out _ HT5.out.b))
            | (go_at_call 11; refine CB.out.mono ?_; clear CB; rintro e w6 ⟨rfl, hb, hg⟩; have HT6 := Aside0.mk (HT5.out.onB hb hg); clear hb hg; have CC := Aside0.mk (ST3.out _ HT6.out.a); have e2 : (w6.cell? ⟨w.heap.size, 2, none⟩ = some (.int .i64 x2)) := (blk_cell HT6.out.box 2).trans rfl)
            | (go_at_call 11; refine CC.out.mono ?_; clear CC e2; rintro e w7 ⟨rfl, hb, hg⟩; have HT7 := Aside0.mk (HT6.out.onA hb hg); clear hb hg; have CD := Aside0.mk (ST4.out _ HT7.out.a))
            | (go_at_call 12; refine CD.out.mono ?_; clear CD; rintro e w8 ⟨rfl, rfl⟩))
          go_ret
          exact ⟨rfl, HT7.out.bel⟩
end Go.Proofs.Ytpjjienjfbimjaa.Bk
