/- The walk of BucketPlays. -/
import Derived.Test.YtpjjienjfbimjaaBkResets
import Derived.Test.YtpjjienjfbimjaaBkRef2
set_option linter.unusedVariables false
set_option linter.unusedSimpArgs false
namespace Go.Proofs.Ytpjjienjfbimjaa.Bk
open Go.RowKit Go.Proofs.YtpjjienjfbimjaaW.PrintWords Go.Proofs.YtpjjienjfbimjaaW.PrintLast Go.Proofs.YtpjjienjfbimjaaW.PrintMore Go.Proofs.Ytpjjienjfbimjaa.Sat Go.Proofs.Ytpjjienjfbimjaa.Open
attribute [local go_sem] Try.underlying41 Try.underlying37 max2_int min2_int max_two min_two max_three min_three max_four min_four
/-- The bucket's block and the reference's variable, alike. -/
structure Pl (w W : World) (ga gr : Nat) (A B : Bk) : Prop where
  a : BK W ga A
  r : RB W gr B
  bel : Below w.heap.size w W
  ne : ga ≠ gr
  la : w.heap.size ≤ ga
  lr : w.heap.size ≤ gr
theorem Pl.far {w W W' : World} {ga gr : Nat} {A B : Bk} (h : Pl w W ga gr A B) (hb : Below W.heap.size W W') : Pl w W' ga gr A B :=
  ⟨(hb.block ga h.a.lt).trans h.a, (hb.block gr (blk_lt h.r)).trans h.r, below_step h.bel hb, h.ne, h.la, h.lr⟩
theorem Pl.onA {w W W' : World} {ga gr : Nat} {A A' B : Bk} (h : Pl w W ga gr A B) (hb : BK W' ga A') (hg : W.grownBy W' (some ga)) : Pl w W' ga gr A' B :=
  ⟨hb, blk_grown h.r hg (fun e => h.ne (by injection e with e; exact e.symm)), below_bk h.bel h.la hg, h.ne, h.la, h.lr⟩
theorem Pl.onR {w W : World} {ga gr : Nat} {A B C : Bk} (h : Pl w W ga gr A B) :
    Pl w ((((W.setCell ⟨gr, 0, none⟩ (.int .i64 C.rate)).setCell ⟨gr, 1, none⟩ (.int .i64 C.cap)).setCell ⟨gr, 2, none⟩ (.int .i64 C.tok)).setCell ⟨gr, 3, none⟩ (.int .i64 C.rnd)) ga gr A C :=
  ⟨far4 h.a h.ne, put4 h.r, below_set (below_set (below_set (below_set h.bel h.lr) h.lr) h.lr) h.lr, h.ne, h.la, h.lr⟩
theorem Pl.alloc {w W : World} {ga gr : Nat} {A B : Bk} (h : Pl w W ga gr A B) (o : Obj) : Pl w (W.alloc o) ga gr A B := h.far (below_alloc (Below.refl _ _) o)
theorem Pl.drewN {w W : World} {ga gr : Nat} {A B : Bk} (h : Pl w W ga gr A B) (n : Nat) : Pl w (W.drewN n) ga gr A B := ⟨h.a, h.r, pw_below_drewN h.bel n, h.ne, h.la, h.lr⟩
theorem Pl.drew {w W : World} {ga gr : Nat} {A B : Bk} (h : Pl w W ga gr A B) : Pl w W.drew ga gr A B := h.drewN 1
structure SB (W : World) (gs : Nat) (x y : Int) : Prop where
  s : W.heap[gs]? = some (.cells #[.int .i64 x, .int .i64 y] 37 (0, 0))
theorem SB.far {W W' : World} {gs : Nat} {x y : Int} (h : SB W gs x y) (hb : Below W.heap.size W W') : SB W' gs x y := ⟨(hb.block gs (blk_lt h.s)).trans h.s⟩
theorem SB.other {W W' : World} {gs g : Nat} {x y : Int} (h : SB W gs x y) (hg : W.grownBy W' (some g)) (hne : gs ≠ g) : SB W' gs x y := ⟨blk_grown h.s hg (fun e => hne (by injection e with e))⟩
theorem SB.on4 {W : World} {gs gr : Nat} {x y : Int} {a b c d : Value} (h : SB W gs x y) (hne : gs ≠ gr) : SB ((((W.setCell ⟨gr, 0, none⟩ a).setCell ⟨gr, 1, none⟩ b).setCell ⟨gr, 2, none⟩ c).setCell ⟨gr, 3, none⟩ d) gs x y := ⟨far4 h.s hne⟩
theorem Pl.c0 {w W : World} {ga gr : Nat} {A B : Bk} (h : Pl w W ga gr A B) : W.cell? ⟨gr, 0, none⟩ = some (.int .i64 B.rate) := (blk_cell h.r 0).trans rfl
theorem Pl.c1 {w W : World} {ga gr : Nat} {A B : Bk} (h : Pl w W ga gr A B) : W.cell? ⟨gr, 1, none⟩ = some (.int .i64 B.cap) := (blk_cell h.r 1).trans rfl
theorem Pl.c2 {w W : World} {ga gr : Nat} {A B : Bk} (h : Pl w W ga gr A B) : W.cell? ⟨gr, 2, none⟩ = some (.int .i64 B.tok) := (blk_cell h.r 2).trans rfl
theorem Pl.c3 {w W : World} {ga gr : Nat} {A B : Bk} (h : Pl w W ga gr A B) : W.cell? ⟨gr, 3, none⟩ = some (.int .i64 B.rnd) := (blk_cell h.r 3).trans rfl
theorem Pl.f {w W : World} {ga gr : Nat} {A B : Bk} (h : Pl w W ga gr A B) (j : Nat) : W.frozen? ⟨gr, j, none⟩ = false := blk_frozen h.r j
theorem SB.drew {W : World} {gs : Nat} {x y : Int} (h : SB W gs x y) : SB W.drew gs x y := ⟨h.s⟩
theorem SB.c0 {W : World} {gs : Nat} {x y : Int} (h : SB W gs x y) : W.cell? ⟨gs, 0, none⟩ = some (.int .i64 x) := (blk_cell h.s 0).trans rfl
theorem SB.c1 {W : World} {gs : Nat} {x y : Int} (h : SB W gs x y) : W.cell? ⟨gs, 1, none⟩ = some (.int .i64 y) := (blk_cell h.s 1).trans rfl
set_option maxHeartbeats 4000000 in
set_option maxRecDepth 100000 in
theorem plays_any (rate cap : Int) (a : Option Addr) (n c : Nat) (L : Nat → Nat → Int) (hn : n ≤ c) (hc : c ≤ maxLen) (w : World) (hL : IntRows w a n 2 L) :
    Calls Try.prog 6 #[.int .i64 rate, .int .i64 cap, .slice a n c] w fun e w' => e = .returned (.bool true) ∧ Below w.heap.size w w' := by
  have OK := Aside0.mk (make_ok rate cap)
  have HE := fun w => early_any a n c hn hc w
  have hm : min n 100 ≤ 100 := by omega
  have HL := Aside0.mk (hL.less (m := min n 100) (by omega))
  have hml : min n 100 ≤ n := by omega
  unfold maxLen at hc
  generalize min n 100 = len at HE hm HL hml
  have HEE := Aside0.mk HE
  clear HE hL
  go_enter Try.func6, Try.ntmps6
  go_wp2_with (first | (go_at_call 8; refine (lives_any _).mono ?_; rintro e w1 ⟨rfl, hb⟩; have HW1 := Aside0.mk hb; clear hb) | (go_at_call 9; refine (new_any _ _ _).mono ?_; rintro e w' ⟨rfl, rfl⟩) | (go_at_call 18; refine (rNew_any _ _ _).mono ?_; rintro e w2 ⟨rfl, hb⟩; have HW2 := Aside0.mk hb; clear hb) | (go_at_call 16; refine (HEE.out _).mono ?_; rintro e w' ⟨rfl, rfl⟩))
  have b0 : BK (w1.alloc (.cells #[.int .i64 (make rate cap).rate, .int .i64 (make rate cap).cap, .int .i64 (make rate cap).tok, .int .i64 (make rate cap).rnd] 49)) w1.heap.size (make rate cap) := by simpa [BK] using heap_alloc_new w1 _
  have hs1 : w.heap.size ≤ w1.heap.size := HW1.out.size
  have hs2 : w1.heap.size + 1 ≤ w2.heap.size := by have := HW2.out.size; simpa using this
  have b1 : BK w2 w1.heap.size (make rate cap) := (HW2.out.block _ (by simp)).trans b0
  have P0 := Aside0.mk (show Pl w (w2.alloc (.cells #[.int .i64 (make rate cap).rate, .int .i64 (make rate cap).cap, .int .i64 (make rate cap).tok, .int .i64 (make rate cap).rnd] 41)) w1.heap.size w2.heap.size (make rate cap) (make rate cap) from
    ⟨blk_alloc b1 _, by simpa [RB] using heap_alloc_new w2 _, below_alloc (below_step (below_alloc HW1.out _) HW2.out) _, by omega, by omega, by omega⟩)
  obtain ⟨M, hM⟩ : ∃ M, make rate cap = M := ⟨_, rfl⟩
  rw [hM] at P0 OK ⊢
  obtain ⟨ga, hga⟩ : ∃ ga, w1.heap.size = ga := ⟨_, rfl⟩
  obtain ⟨gr, hgr⟩ : ∃ gr, w2.heap.size = gr := ⟨_, rfl⟩
  rw [hga, hgr] at P0
  rw [hga, hgr]
  clear b0 b1 hs1 hs2 hM hga hgr HW1 HW2
  go_loopw [9] (fun i wr => ∃ (k : Nat) (B : Bk), k ≤ len ∧ i = .int .i64 k ∧ Aside0 B.Ok ∧ Aside0 (Pl w wr ga gr B B)) (fun i _ => len - (intOf i).toNat)
  case atStart => exact ⟨0, M, by omega, rfl, OK, P0⟩
  case round =>
    clear P0 OK
    obtain ⟨k, B, hk, rfl, OK, HP⟩ := hrel
    by_cases hlt : k < len
    · obtain ⟨bs, off, rfl, hcell⟩ := (HL.out.below HP.out.bel).at_ hlt
      have e0 : wr.cell? ⟨bs, off + k * 2, none⟩ = some (.int .i64 (L k 0)) := hcell 0 (by omega)
      have e1 : wr.cell? ⟨bs, off + k * 2 + 1, none⟩ = some (.int .i64 (L k 1)) := hcell 1 (by omega)
      obtain ⟨x, hx⟩ : ∃ x, L k 0 = x := ⟨_, rfl⟩
      obtain ⟨y, hy⟩ : ∃ y, L k 1 = y := ⟨_, rfl⟩
      rw [hx] at e0
      rw [hy] at e1
      clear hcell hx hy
      have S0 := Aside0.mk (show SB (wr.alloc (.cells #[.int .i64 x, .int .i64 y] 37)) wr.heap.size x y from ⟨by simpa using heap_alloc_new wr _⟩)
      have P1 := Aside0.mk (HP.out.alloc (.cells #[.int .i64 x, .int .i64 y] 37))
      have nsr : wr.heap.size ≠ gr := by have := blk_lt HP.out.r; omega
      have nsa : wr.heap.size ≠ ga := by have := HP.out.a.lt; omega
      obtain ⟨hk0, hk1, hk2⟩ := um x 6 (by omega) (by omega)
      rw [← hk0] at hk1 hk2
      have HK : ∀ w : World, Calls Try.prog 19 #[.agg #[.int .i64 x, .int .i64 y]] w fun e w' => e = .returned (.int .i64 (wrap64 (Int.tmod (IntKind.u64.wrap x) 6))) ∧ Below w.heap.size w w' := fun w => kind_any x y w
      clear hk0
      generalize wrap64 (Int.tmod (IntKind.u64.wrap x) 6) = K at hk1 hk2 HK
      have HKK := Aside0.mk HK
      clear HK
      rcases (show K = 0 ∨ K = 1 ∨ K = 2 ∨ K = 3 ∨ K = 4 ∨ K = 5 by omega) with rfl | rfl | rfl | rfl | rfl | rfl
      · have OK' := Aside0.mk (take_ok OK.out y)
        go_upto_region 15 with (first | (go_at_call 19; refine (HKK.out _).mono ?_; rintro e w2 ⟨rfl, hb⟩; have P2 := Aside0.mk (P1.out.far hb); have S2 := Aside0.mk (S0.out.far hb); clear hb e0 e1 S0 P1; have s0 := S2.out.c0; have s1 := S2.out.c1; have r0 := P2.out.c0; have r1 := P2.out.c1; have r2 := P2.out.c2; have r3 := P2.out.c3) | (go_at_call 20; refine (rTake_any OK.out y _).mono ?_; rintro e w3 ⟨rfl, hb⟩; have P3 := Aside0.mk (P2.out.far hb); have S3 := Aside0.mk (S2.out.far hb); clear hb P2 S2 s0 s1 r0 r1 r2 r3))
        have q0 := P3.out.alloc (.cells #[.int .i64 (take B y).rate, .int .i64 (take B y).cap, .int .i64 (take B y).tok, .int .i64 (take B y).rnd] 41)
        have q1 := S3.out.far (below_alloc (Below.refl _ _) (.cells #[.int .i64 (take B y).rate, .int .i64 (take B y).cap, .int .i64 (take B y).tok, .int .i64 (take B y).rnd] 41))
        have q2 : RB (w3.alloc (.cells #[.int .i64 (take B y).rate, .int .i64 (take B y).cap, .int .i64 (take B y).tok, .int .i64 (take B y).rnd] 41)) w3.heap.size (take B y) := by simpa [RB] using heap_alloc_new w3 _
        have nn : gr ≠ w3.heap.size := by have := blk_lt P3.out.r; omega
        clear P3 S3
        revert q0 q1 q2
        generalize w3.alloc (.cells #[.int .i64 (take B y).rate, .int .i64 (take B y).cap, .int .i64 (take B y).tok, .int .i64 (take B y).rnd] 41) = w4
        intro q0 q1 q2
        have P4 := Aside0.mk q0
        have S4 := Aside0.mk q1
        have n0 : w4.cell? ⟨w3.heap.size, 0, none⟩ = some (.int .i64 (take B y).rate) := (blk_cell q2 0).trans rfl
        have n1 : w4.cell? ⟨w3.heap.size, 1, none⟩ = some (.int .i64 (take B y).cap) := (blk_cell q2 1).trans rfl
        have n2 : w4.cell? ⟨w3.heap.size, 2, none⟩ = some (.int .i64 (take B y).tok) := (blk_cell q2 2).trans rfl
        have n3 : w4.cell? ⟨w3.heap.size, 3, none⟩ = some (.int .i64 (take B y).rnd) := (blk_cell q2 3).trans rfl
        have r0 := P4.out.c0
        have r1 := P4.out.c1
        have r2 := P4.out.c2
        have r3 := P4.out.c3
        have f0 := P4.out.f 0
        have f1 := P4.out.f 1
        have f2 := P4.out.f 2
        have f3 := P4.out.f 3
        clear q0 q1 q2
        go_upto_region 16 with (fail)
        clear n0 n1 n2 n3 r0 r1 r2 r3 f0 f1 f2 f3
        have q0 : Pl w ((((w4.setCell ⟨gr, 0, none⟩ (.int .i64 (take B y).rate)).setCell ⟨gr, 1, none⟩ (.int .i64 (take B y).cap)).setCell ⟨gr, 2, none⟩ (.int .i64 (take B y).tok)).setCell ⟨gr, 3, none⟩ (.int .i64 (take B y).rnd)) ga gr B (take B y) := P4.out.onR
        have q1 : SB ((((w4.setCell ⟨gr, 0, none⟩ (.int .i64 (take B y).rate)).setCell ⟨gr, 1, none⟩ (.int .i64 (take B y).cap)).setCell ⟨gr, 2, none⟩ (.int .i64 (take B y).tok)).setCell ⟨gr, 3, none⟩ (.int .i64 (take B y).rnd)) wr.heap.size x y := S4.out.on4 nsr
        clear P4 S4
        revert q0 q1
        generalize ((((w4.setCell ⟨gr, 0, none⟩ (.int .i64 (take B y).rate)).setCell ⟨gr, 1, none⟩ (.int .i64 (take B y).cap)).setCell ⟨gr, 2, none⟩ (.int .i64 (take B y).tok)).setCell ⟨gr, 3, none⟩ (.int .i64 (take B y).rnd)) = w5
        intro q0 q1
        have P5 := Aside0.mk q0
        have S5 := Aside0.mk q1
        clear q0 q1
        have CT := Aside0.mk (take_any OK.out y P5.out.a)
        have s1 := S5.out.c1
        go_wp2_with (first | (go_at_call 10; refine CT.out.mono ?_; rintro e w6 ⟨rfl, hb, hg⟩; have P6 := Aside0.mk (P5.out.onA hb hg); clear hb hg P5 S5 CT s1))
        have r0 := P6.out.c0
        have r1 := P6.out.c1
        have r3 := P6.out.c3
        go_quiet ((first | (go_at_call 12; exact Calls.quiet_of_same ((round_any (g := ga) (B := take B y) (by exact P6.out.a)).mono (fun e w' h => ⟨h.1, h.2.symm⟩))) | (go_at_call 14; exact Calls.quiet_of_same ((rate_any (g := ga) (B := take B y) (by exact P6.out.a)).mono (fun e w' h => ⟨h.1, h.2.symm⟩))) | (go_at_call 15; exact Calls.quiet_of_same ((cap_any (g := ga) (B := take B y) (by exact P6.out.a)).mono (fun e w' h => ⟨h.1, h.2.symm⟩)))))
        go_wp2
        go_roundw
        case rel => exact ⟨k + 1, take B y, by omega, by go_num, OK', ⟨P6.out.drewN _⟩⟩
        case measure => simp [intOf]; omega
      · have OK' := Aside0.mk (take_ok OK.out y)
        go_upto_region 15 with (first | (go_at_call 19; refine (HKK.out _).mono ?_; rintro e w2 ⟨rfl, hb⟩; have P2 := Aside0.mk (P1.out.far hb); have S2 := Aside0.mk (S0.out.far hb); clear hb e0 e1 S0 P1; have s0 := S2.out.c0; have s1 := S2.out.c1; have r0 := P2.out.c0; have r1 := P2.out.c1; have r2 := P2.out.c2; have r3 := P2.out.c3) | (go_at_call 20; refine (rTake_any OK.out y _).mono ?_; rintro e w3 ⟨rfl, hb⟩; have P3 := Aside0.mk (P2.out.far hb); have S3 := Aside0.mk (S2.out.far hb); clear hb P2 S2 s0 s1 r0 r1 r2 r3))
        have q0 := P3.out.alloc (.cells #[.int .i64 (take B y).rate, .int .i64 (take B y).cap, .int .i64 (take B y).tok, .int .i64 (take B y).rnd] 41)
        have q1 := S3.out.far (below_alloc (Below.refl _ _) (.cells #[.int .i64 (take B y).rate, .int .i64 (take B y).cap, .int .i64 (take B y).tok, .int .i64 (take B y).rnd] 41))
        have q2 : RB (w3.alloc (.cells #[.int .i64 (take B y).rate, .int .i64 (take B y).cap, .int .i64 (take B y).tok, .int .i64 (take B y).rnd] 41)) w3.heap.size (take B y) := by simpa [RB] using heap_alloc_new w3 _
        have nn : gr ≠ w3.heap.size := by have := blk_lt P3.out.r; omega
        clear P3 S3
        revert q0 q1 q2
        generalize w3.alloc (.cells #[.int .i64 (take B y).rate, .int .i64 (take B y).cap, .int .i64 (take B y).tok, .int .i64 (take B y).rnd] 41) = w4
        intro q0 q1 q2
        have P4 := Aside0.mk q0
        have S4 := Aside0.mk q1
        have n0 : w4.cell? ⟨w3.heap.size, 0, none⟩ = some (.int .i64 (take B y).rate) := (blk_cell q2 0).trans rfl
        have n1 : w4.cell? ⟨w3.heap.size, 1, none⟩ = some (.int .i64 (take B y).cap) := (blk_cell q2 1).trans rfl
        have n2 : w4.cell? ⟨w3.heap.size, 2, none⟩ = some (.int .i64 (take B y).tok) := (blk_cell q2 2).trans rfl
        have n3 : w4.cell? ⟨w3.heap.size, 3, none⟩ = some (.int .i64 (take B y).rnd) := (blk_cell q2 3).trans rfl
        have r0 := P4.out.c0
        have r1 := P4.out.c1
        have r2 := P4.out.c2
        have r3 := P4.out.c3
        have f0 := P4.out.f 0
        have f1 := P4.out.f 1
        have f2 := P4.out.f 2
        have f3 := P4.out.f 3
        clear q0 q1 q2
        go_upto_region 16 with (fail)
        clear n0 n1 n2 n3 r0 r1 r2 r3 f0 f1 f2 f3
        have q0 : Pl w ((((w4.setCell ⟨gr, 0, none⟩ (.int .i64 (take B y).rate)).setCell ⟨gr, 1, none⟩ (.int .i64 (take B y).cap)).setCell ⟨gr, 2, none⟩ (.int .i64 (take B y).tok)).setCell ⟨gr, 3, none⟩ (.int .i64 (take B y).rnd)) ga gr B (take B y) := P4.out.onR
        have q1 : SB ((((w4.setCell ⟨gr, 0, none⟩ (.int .i64 (take B y).rate)).setCell ⟨gr, 1, none⟩ (.int .i64 (take B y).cap)).setCell ⟨gr, 2, none⟩ (.int .i64 (take B y).tok)).setCell ⟨gr, 3, none⟩ (.int .i64 (take B y).rnd)) wr.heap.size x y := S4.out.on4 nsr
        clear P4 S4
        revert q0 q1
        generalize ((((w4.setCell ⟨gr, 0, none⟩ (.int .i64 (take B y).rate)).setCell ⟨gr, 1, none⟩ (.int .i64 (take B y).cap)).setCell ⟨gr, 2, none⟩ (.int .i64 (take B y).tok)).setCell ⟨gr, 3, none⟩ (.int .i64 (take B y).rnd)) = w5
        intro q0 q1
        have P5 := Aside0.mk q0
        have S5 := Aside0.mk q1
        clear q0 q1
        have CT := Aside0.mk (take_any OK.out y P5.out.a)
        have s1 := S5.out.c1
        go_wp2_with (first | (go_at_call 10; refine CT.out.mono ?_; rintro e w6 ⟨rfl, hb, hg⟩; have P6 := Aside0.mk (P5.out.onA hb hg); clear hb hg P5 S5 CT s1))
        have r0 := P6.out.c0
        have r1 := P6.out.c1
        have r3 := P6.out.c3
        go_quiet ((first | (go_at_call 12; exact Calls.quiet_of_same ((round_any (g := ga) (B := take B y) (by exact P6.out.a)).mono (fun e w' h => ⟨h.1, h.2.symm⟩))) | (go_at_call 14; exact Calls.quiet_of_same ((rate_any (g := ga) (B := take B y) (by exact P6.out.a)).mono (fun e w' h => ⟨h.1, h.2.symm⟩))) | (go_at_call 15; exact Calls.quiet_of_same ((cap_any (g := ga) (B := take B y) (by exact P6.out.a)).mono (fun e w' h => ⟨h.1, h.2.symm⟩)))))
        go_wp2
        go_roundw
        case rel => exact ⟨k + 1, take B y, by omega, by go_num, OK', ⟨P6.out.drewN _⟩⟩
        case measure => simp [intOf]; omega
      · have OK' := Aside0.mk (take_ok OK.out y)
        go_upto_region 15 with (first | (go_at_call 19; refine (HKK.out _).mono ?_; rintro e w2 ⟨rfl, hb⟩; have P2 := Aside0.mk (P1.out.far hb); have S2 := Aside0.mk (S0.out.far hb); clear hb e0 e1 S0 P1; have s0 := S2.out.c0; have s1 := S2.out.c1; have r0 := P2.out.c0; have r1 := P2.out.c1; have r2 := P2.out.c2; have r3 := P2.out.c3) | (go_at_call 20; refine (rTake_any OK.out y _).mono ?_; rintro e w3 ⟨rfl, hb⟩; have P3 := Aside0.mk (P2.out.far hb); have S3 := Aside0.mk (S2.out.far hb); clear hb P2 S2 s0 s1 r0 r1 r2 r3))
        have q0 := P3.out.alloc (.cells #[.int .i64 (take B y).rate, .int .i64 (take B y).cap, .int .i64 (take B y).tok, .int .i64 (take B y).rnd] 41)
        have q1 := S3.out.far (below_alloc (Below.refl _ _) (.cells #[.int .i64 (take B y).rate, .int .i64 (take B y).cap, .int .i64 (take B y).tok, .int .i64 (take B y).rnd] 41))
        have q2 : RB (w3.alloc (.cells #[.int .i64 (take B y).rate, .int .i64 (take B y).cap, .int .i64 (take B y).tok, .int .i64 (take B y).rnd] 41)) w3.heap.size (take B y) := by simpa [RB] using heap_alloc_new w3 _
        have nn : gr ≠ w3.heap.size := by have := blk_lt P3.out.r; omega
        clear P3 S3
        revert q0 q1 q2
        generalize w3.alloc (.cells #[.int .i64 (take B y).rate, .int .i64 (take B y).cap, .int .i64 (take B y).tok, .int .i64 (take B y).rnd] 41) = w4
        intro q0 q1 q2
        have P4 := Aside0.mk q0
        have S4 := Aside0.mk q1
        have n0 : w4.cell? ⟨w3.heap.size, 0, none⟩ = some (.int .i64 (take B y).rate) := (blk_cell q2 0).trans rfl
        have n1 : w4.cell? ⟨w3.heap.size, 1, none⟩ = some (.int .i64 (take B y).cap) := (blk_cell q2 1).trans rfl
        have n2 : w4.cell? ⟨w3.heap.size, 2, none⟩ = some (.int .i64 (take B y).tok) := (blk_cell q2 2).trans rfl
        have n3 : w4.cell? ⟨w3.heap.size, 3, none⟩ = some (.int .i64 (take B y).rnd) := (blk_cell q2 3).trans rfl
        have r0 := P4.out.c0
        have r1 := P4.out.c1
        have r2 := P4.out.c2
        have r3 := P4.out.c3
        have f0 := P4.out.f 0
        have f1 := P4.out.f 1
        have f2 := P4.out.f 2
        have f3 := P4.out.f 3
        clear q0 q1 q2
        go_upto_region 16 with (fail)
        clear n0 n1 n2 n3 r0 r1 r2 r3 f0 f1 f2 f3
        have q0 : Pl w ((((w4.setCell ⟨gr, 0, none⟩ (.int .i64 (take B y).rate)).setCell ⟨gr, 1, none⟩ (.int .i64 (take B y).cap)).setCell ⟨gr, 2, none⟩ (.int .i64 (take B y).tok)).setCell ⟨gr, 3, none⟩ (.int .i64 (take B y).rnd)) ga gr B (take B y) := P4.out.onR
        have q1 : SB ((((w4.setCell ⟨gr, 0, none⟩ (.int .i64 (take B y).rate)).setCell ⟨gr, 1, none⟩ (.int .i64 (take B y).cap)).setCell ⟨gr, 2, none⟩ (.int .i64 (take B y).tok)).setCell ⟨gr, 3, none⟩ (.int .i64 (take B y).rnd)) wr.heap.size x y := S4.out.on4 nsr
        clear P4 S4
        revert q0 q1
        generalize ((((w4.setCell ⟨gr, 0, none⟩ (.int .i64 (take B y).rate)).setCell ⟨gr, 1, none⟩ (.int .i64 (take B y).cap)).setCell ⟨gr, 2, none⟩ (.int .i64 (take B y).tok)).setCell ⟨gr, 3, none⟩ (.int .i64 (take B y).rnd)) = w5
        intro q0 q1
        have P5 := Aside0.mk q0
        have S5 := Aside0.mk q1
        clear q0 q1
        have CT := Aside0.mk (take_any OK.out y P5.out.a)
        have s1 := S5.out.c1
        go_wp2_with (first | (go_at_call 10; refine CT.out.mono ?_; rintro e w6 ⟨rfl, hb, hg⟩; have P6 := Aside0.mk (P5.out.onA hb hg); clear hb hg P5 S5 CT s1))
        have r0 := P6.out.c0
        have r1 := P6.out.c1
        have r3 := P6.out.c3
        go_quiet ((first | (go_at_call 12; exact Calls.quiet_of_same ((round_any (g := ga) (B := take B y) (by exact P6.out.a)).mono (fun e w' h => ⟨h.1, h.2.symm⟩))) | (go_at_call 14; exact Calls.quiet_of_same ((rate_any (g := ga) (B := take B y) (by exact P6.out.a)).mono (fun e w' h => ⟨h.1, h.2.symm⟩))) | (go_at_call 15; exact Calls.quiet_of_same ((cap_any (g := ga) (B := take B y) (by exact P6.out.a)).mono (fun e w' h => ⟨h.1, h.2.symm⟩)))))
        go_wp2
        go_roundw
        case rel => exact ⟨k + 1, take B y, by omega, by go_num, OK', ⟨P6.out.drewN _⟩⟩
        case measure => simp [intOf]; omega
      · have OK' := Aside0.mk (come_ok OK.out y)
        go_upto_region 19 with (first | (go_at_call 19; refine (HKK.out _).mono ?_; rintro e w2 ⟨rfl, hb⟩; have P2 := Aside0.mk (P1.out.far hb); have S2 := Aside0.mk (S0.out.far hb); clear hb e0 e1 S0 P1; have s0 := S2.out.c0; have s1 := S2.out.c1; have r0 := P2.out.c0; have r1 := P2.out.c1; have r2 := P2.out.c2; have r3 := P2.out.c3) | (go_at_call 21; refine (rCome_any OK.out y _).mono ?_; rintro e w3 ⟨rfl, hb⟩; have P3 := Aside0.mk (P2.out.far hb); have S3 := Aside0.mk (S2.out.far hb); clear hb P2 S2 s0 s1 r0 r1 r2 r3; have f0 := P3.out.f 0; have f1 := P3.out.f 1; have f2 := P3.out.f 2; have f3 := P3.out.f 3; have r0 := P3.out.c0; have r1 := P3.out.c1; have r2 := P3.out.c2; have r3 := P3.out.c3))
        clear r0 r1 r2 r3 f0 f1 f2 f3
        have q0 : Pl w ((((w3.setCell ⟨gr, 0, none⟩ (.int .i64 (come B y).rate)).setCell ⟨gr, 1, none⟩ (.int .i64 (come B y).cap)).setCell ⟨gr, 2, none⟩ (.int .i64 (come B y).tok)).setCell ⟨gr, 3, none⟩ (.int .i64 (come B y).rnd)) ga gr B (come B y) := P3.out.onR
        have q1 : SB ((((w3.setCell ⟨gr, 0, none⟩ (.int .i64 (come B y).rate)).setCell ⟨gr, 1, none⟩ (.int .i64 (come B y).cap)).setCell ⟨gr, 2, none⟩ (.int .i64 (come B y).tok)).setCell ⟨gr, 3, none⟩ (.int .i64 (come B y).rnd)) wr.heap.size x y := S3.out.on4 nsr
        clear P3 S3
        revert q0 q1
        generalize ((((w3.setCell ⟨gr, 0, none⟩ (.int .i64 (come B y).rate)).setCell ⟨gr, 1, none⟩ (.int .i64 (come B y).cap)).setCell ⟨gr, 2, none⟩ (.int .i64 (come B y).tok)).setCell ⟨gr, 3, none⟩ (.int .i64 (come B y).rnd)) = w5
        intro q0 q1
        have P5 := Aside0.mk q0
        have S5 := Aside0.mk q1
        clear q0 q1
        have CT := Aside0.mk (tokens_any OK.out y P5.out.a)
        have s1 := S5.out.c1
        have r2 := P5.out.c2
        have ngr : gr ≠ ga := fun h => P5.out.ne h.symm
        have ltr : gr < w5.heap.size := blk_lt P5.out.r
        have lts : wr.heap.size < w5.heap.size := blk_lt S5.out.s
        go_region_held3 (fun w' => w'.cell? ⟨gr, 2, none⟩ = some (.int .i64 (come B y).tok) ∧ w'.cell? ⟨wr.heap.size, 1, none⟩ = some (.int .i64 y)) (first | exact ⟨P6.out.c2, S6.out.c1⟩ | go_keep) (first | (go_at_call 11; refine (tokens_any OK.out y (by exact P5.out.a)).mono ?_; rintro e w6 ⟨rfl, hb, hg⟩; have P6 := Aside0.mk (P5.out.drew.onA hb hg); have S6 := Aside0.mk (S5.out.drew.other hg nsa); clear hb hg))
        clear CT s1 r2 ngr ltr lts P5 S5
        go_wp2
        have r0 := P6.out.c0
        have r1 := P6.out.c1
        have r3 := P6.out.c3
        go_quiet ((first | (go_at_call 12; exact Calls.quiet_of_same ((round_any (g := ga) (B := come B y) (by exact P6.out.a)).mono (fun e w' h => ⟨h.1, h.2.symm⟩))) | (go_at_call 14; exact Calls.quiet_of_same ((rate_any (g := ga) (B := come B y) (by exact P6.out.a)).mono (fun e w' h => ⟨h.1, h.2.symm⟩))) | (go_at_call 15; exact Calls.quiet_of_same ((cap_any (g := ga) (B := come B y) (by exact P6.out.a)).mono (fun e w' h => ⟨h.1, h.2.symm⟩)))))
        go_wp2
        go_roundw
        case rel => exact ⟨k + 1, come B y, by omega, by go_num, OK', ⟨P6.out.drewN _⟩⟩
        case measure => simp [intOf]; omega
      · have OK' := Aside0.mk (come_ok OK.out y)
        go_upto_region 23 with (first | (go_at_call 19; refine (HKK.out _).mono ?_; rintro e w2 ⟨rfl, hb⟩; have P2 := Aside0.mk (P1.out.far hb); have S2 := Aside0.mk (S0.out.far hb); clear hb e0 e1 S0 P1; have s0 := S2.out.c0; have s1 := S2.out.c1; have r0 := P2.out.c0; have r1 := P2.out.c1; have r2 := P2.out.c2; have r3 := P2.out.c3) | (go_at_call 22; refine (rWait_any OK.out y _).mono ?_; rintro e w4 ⟨rfl, hb⟩; have P4 := Aside0.mk (P2.out.far hb); have S4 := Aside0.mk (S2.out.far hb); clear hb P2 S2 s0 s1 r0 r1 r2 r3; have P2 := P4; have S2 := S4; clear P4 S4; have s0 := S2.out.c0; have s1 := S2.out.c1; have r0 := P2.out.c0; have r1 := P2.out.c1; have r2 := P2.out.c2; have r3 := P2.out.c3) | (go_at_call 21; refine (rCome_any OK.out y _).mono ?_; rintro e w3 ⟨rfl, hb⟩; have P3 := Aside0.mk (P2.out.far hb); have S3 := Aside0.mk (S2.out.far hb); clear hb P2 S2 s0 s1 r0 r1 r2 r3; have f0 := P3.out.f 0; have f1 := P3.out.f 1; have f2 := P3.out.f 2; have f3 := P3.out.f 3; have r0 := P3.out.c0; have r1 := P3.out.c1; have r2 := P3.out.c2; have r3 := P3.out.c3))
        clear r0 r1 r2 r3 f0 f1 f2 f3
        have q0 : Pl w ((((w3.setCell ⟨gr, 0, none⟩ (.int .i64 (come B y).rate)).setCell ⟨gr, 1, none⟩ (.int .i64 (come B y).cap)).setCell ⟨gr, 2, none⟩ (.int .i64 (come B y).tok)).setCell ⟨gr, 3, none⟩ (.int .i64 (come B y).rnd)) ga gr B (come B y) := P3.out.onR
        have q1 : SB ((((w3.setCell ⟨gr, 0, none⟩ (.int .i64 (come B y).rate)).setCell ⟨gr, 1, none⟩ (.int .i64 (come B y).cap)).setCell ⟨gr, 2, none⟩ (.int .i64 (come B y).tok)).setCell ⟨gr, 3, none⟩ (.int .i64 (come B y).rnd)) wr.heap.size x y := S3.out.on4 nsr
        clear P3 S3
        revert q0 q1
        generalize ((((w3.setCell ⟨gr, 0, none⟩ (.int .i64 (come B y).rate)).setCell ⟨gr, 1, none⟩ (.int .i64 (come B y).cap)).setCell ⟨gr, 2, none⟩ (.int .i64 (come B y).tok)).setCell ⟨gr, 3, none⟩ (.int .i64 (come B y).rnd)) = w5
        intro q0 q1
        have P5 := Aside0.mk q0
        have S5 := Aside0.mk q1
        clear q0 q1
        have CT := Aside0.mk (wait_any OK.out y P5.out.a)
        have s1 := S5.out.c1
        go_wp2_with (first | (go_at_call 13; refine CT.out.mono ?_; rintro e w6 ⟨rfl, hb, hg⟩; have P6 := Aside0.mk (P5.out.onA hb hg); clear hb hg P5 S5 CT s1))
        have r0 := P6.out.c0
        have r1 := P6.out.c1
        have r3 := P6.out.c3
        go_quiet ((first | (go_at_call 12; exact Calls.quiet_of_same ((round_any (g := ga) (B := come B y) (by exact P6.out.a)).mono (fun e w' h => ⟨h.1, h.2.symm⟩))) | (go_at_call 14; exact Calls.quiet_of_same ((rate_any (g := ga) (B := come B y) (by exact P6.out.a)).mono (fun e w' h => ⟨h.1, h.2.symm⟩))) | (go_at_call 15; exact Calls.quiet_of_same ((cap_any (g := ga) (B := come B y) (by exact P6.out.a)).mono (fun e w' h => ⟨h.1, h.2.symm⟩)))))
        go_wp2
        go_roundw
        case rel => exact ⟨k + 1, come B y, by omega, by go_num, OK', ⟨P6.out.drewN _⟩⟩
        case measure => simp [intOf]; omega
      · by_cases hy3 : Int.tmod y 3 = 0
        · have hy3' : (Int.tmod y 3 == 0) = true := beq_iff_eq.mpr hy3
          clear hy3
          have OK' := Aside0.mk (reset_ok OK.out y)
          go_upto_region 28 with (first | (go_at_call 19; refine (HKK.out _).mono ?_; rintro e w2 ⟨rfl, hb⟩; have P2 := Aside0.mk (P1.out.far hb); have S2 := Aside0.mk (S0.out.far hb); clear hb e0 e1 S0 P1; have s0 := S2.out.c0; have s1 := S2.out.c1; have r0 := P2.out.c0; have r1 := P2.out.c1; have r2 := P2.out.c2; have r3 := P2.out.c3) | (go_at_call 21; refine (rCome_any OK.out y _).mono ?_; rintro e w3 ⟨rfl, hb⟩; have P3 := Aside0.mk (P2.out.far hb); have S3 := Aside0.mk (S2.out.far hb); clear hb P2 S2 s0 s1 r0 r1 r2 r3; have f0 := P3.out.f 0; have f1 := P3.out.f 1; have f2 := P3.out.f 2; have f3 := P3.out.f 3; have r0 := P3.out.c0; have r1 := P3.out.c1; have r2 := P3.out.c2; have r3 := P3.out.c3))
          clear r0 r1 r2 r3 f0 f1 f2 f3
          have q0 : Pl w ((((w3.setCell ⟨gr, 0, none⟩ (.int .i64 (come B y).rate)).setCell ⟨gr, 1, none⟩ (.int .i64 (come B y).cap)).setCell ⟨gr, 2, none⟩ (.int .i64 (come B y).tok)).setCell ⟨gr, 3, none⟩ (.int .i64 (come B y).rnd)) ga gr B (come B y) := P3.out.onR
          have q1 : SB ((((w3.setCell ⟨gr, 0, none⟩ (.int .i64 (come B y).rate)).setCell ⟨gr, 1, none⟩ (.int .i64 (come B y).cap)).setCell ⟨gr, 2, none⟩ (.int .i64 (come B y).tok)).setCell ⟨gr, 3, none⟩ (.int .i64 (come B y).rnd)) wr.heap.size x y := S3.out.on4 nsr
          clear P3 S3
          revert q0 q1
          generalize ((((w3.setCell ⟨gr, 0, none⟩ (.int .i64 (come B y).rate)).setCell ⟨gr, 1, none⟩ (.int .i64 (come B y).cap)).setCell ⟨gr, 2, none⟩ (.int .i64 (come B y).tok)).setCell ⟨gr, 3, none⟩ (.int .i64 (come B y).rnd)) = w5
          intro q0 q1
          have P5 := Aside0.mk q0
          have S5 := Aside0.mk q1
          clear q0 q1
          have r1 := P5.out.c1
          have r2 := P5.out.c2
          have f2 := P5.out.f 2
          go_upto_region 29 with (fail)
          have q0 : Pl w (w5.setCell ⟨gr, 2, none⟩ (.int .i64 (come B y).cap)) ga gr B (reset B y) := ⟨blk_far P5.out.a P5.out.ne _, blk_put P5.out.r 2 _ rfl, below_set P5.out.bel P5.out.lr, P5.out.ne, P5.out.la, P5.out.lr⟩
          have q1 : SB (w5.setCell ⟨gr, 2, none⟩ (.int .i64 (come B y).cap)) wr.heap.size x y := ⟨blk_far S5.out.s nsr _⟩
          clear P5 S5 r1 r2 f2
          revert q0 q1
          generalize w5.setCell ⟨gr, 2, none⟩ (.int .i64 (come B y).cap) = w7
          intro q0 q1
          have P7 := Aside0.mk q0
          have S7 := Aside0.mk q1
          clear q0 q1
          have CT := Aside0.mk (reset_any OK.out y P7.out.a)
          have s1 := S7.out.c1
          go_wp2_with (first | (go_at_call 23; refine CT.out.mono ?_; rintro e w6 ⟨rfl, hb, hg⟩; have P6 := Aside0.mk (P7.out.onA hb hg); clear hb hg P7 S7 CT s1))
          have r0 := P6.out.c0
          have r1 := P6.out.c1
          have r3 := P6.out.c3
          go_quiet ((first | (go_at_call 12; exact Calls.quiet_of_same ((round_any (g := ga) (B := reset B y) (by exact P6.out.a)).mono (fun e w' h => ⟨h.1, h.2.symm⟩))) | (go_at_call 14; exact Calls.quiet_of_same ((rate_any (g := ga) (B := reset B y) (by exact P6.out.a)).mono (fun e w' h => ⟨h.1, h.2.symm⟩))) | (go_at_call 15; exact Calls.quiet_of_same ((cap_any (g := ga) (B := reset B y) (by exact P6.out.a)).mono (fun e w' h => ⟨h.1, h.2.symm⟩)))))
          go_wp2
          go_roundw
          case rel => exact ⟨k + 1, reset B y, by omega, by go_num, OK', ⟨P6.out.drewN _⟩⟩
          case measure => simp [intOf]; omega
        · have hy3' : (Int.tmod y 3 == 0) = false := beq_eq_false_iff_ne.mpr hy3
          clear hy3
          have OK' := OK
          go_wp2_with (first | (go_at_call 19; refine (HKK.out _).mono ?_; rintro e w2 ⟨rfl, hb⟩; have P2 := Aside0.mk (P1.out.far hb); have S2 := Aside0.mk (S0.out.far hb); clear hb e0 e1 S0 P1; have s0 := S2.out.c0; have s1 := S2.out.c1; have r0 := P2.out.c0; have r1 := P2.out.c1; have r2 := P2.out.c2; have r3 := P2.out.c3))
          have r0 := P2.out.c0
          have r1 := P2.out.c1
          have r3 := P2.out.c3
          go_quiet ((first | (go_at_call 12; exact Calls.quiet_of_same ((round_any (g := ga) (B := B) (by exact P2.out.a)).mono (fun e w' h => ⟨h.1, h.2.symm⟩))) | (go_at_call 14; exact Calls.quiet_of_same ((rate_any (g := ga) (B := B) (by exact P2.out.a)).mono (fun e w' h => ⟨h.1, h.2.symm⟩))) | (go_at_call 15; exact Calls.quiet_of_same ((cap_any (g := ga) (B := B) (by exact P2.out.a)).mono (fun e w' h => ⟨h.1, h.2.symm⟩)))))
          go_wp2
          go_roundw
          case rel => exact ⟨k + 1, B, by omega, by go_num, OK', ⟨P2.out.drewN _⟩⟩
          case measure => simp [intOf]; omega
    · obtain rfl : k = len := by omega
      go_wp2
      go_ret
      exact ⟨rfl, HP.out.bel⟩
end Go.Proofs.Ytpjjienjfbimjaa.Bk
