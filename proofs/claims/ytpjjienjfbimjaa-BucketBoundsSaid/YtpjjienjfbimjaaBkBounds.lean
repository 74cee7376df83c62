/- The walk of BucketBounds. -/
import Derived.Test.YtpjjienjfbimjaaBkResets
set_option linter.unusedVariables false
set_option linter.unusedSimpArgs false
namespace Go.Proofs.Ytpjjienjfbimjaa.Bk
open Go.RowKit Go.Proofs.YtpjjienjfbimjaaW.PrintWords Go.Proofs.YtpjjienjfbimjaaW.PrintLast Go.Proofs.YtpjjienjfbimjaaW.PrintMore Go.Proofs.Ytpjjienjfbimjaa.Sat Go.Proofs.Ytpjjienjfbimjaa.Open
attribute [local go_sem] max2_int min2_int max_two min_two max_three min_three max_four min_four
theorem um2 (x : Int) : 0 ≤ wrap64 (IntKind.u64.wrap (((IntKind.u64.wrap x).tmod 1000).tdiv 100)) ∧ wrap64 (IntKind.u64.wrap (((IntKind.u64.wrap x).tmod 1000).tdiv 100)) ≤ 9 := by
  have h2 : 0 ≤ IntKind.u64.wrap x := by rw [wu64]; omega
  generalize IntKind.u64.wrap x = y at h2
  rw [Int.tmod_eq_emod_of_nonneg h2, Int.tdiv_eq_ediv_of_nonneg (by omega), wu64, w64_in (by omega) (by omega)]
  omega
def b2i (b : Bool) : Int := if b = true then 1 else 0
theorem b2i_t : b2i true = 1 := rfl
theorem b2i_f : b2i false = 0 := rfl
/-- Two buckets played alike, the second one's rate and cap no less: what holds behind k steps. -/
structure Bnd (M N : Bk) (k : Nat) (B C : Bk) (n m R : Int) : Prop where
  okB : B.Ok
  okC : C.Ok
  rB : B.rate = M.rate
  cB : B.cap = M.cap
  rC : C.rate = N.rate
  cC : C.cap = N.cap
  nB : B.rnd = R
  nC : C.rnd = R
  R0 : 0 ≤ R
  R1 : R ≤ 9 * k
  n0 : 0 ≤ n
  nM : n + B.tok ≤ M.cap + M.rate * R
  nm : n ≤ m
  mle : m ≤ k
  tt : B.tok ≤ C.tok + (m - n)
theorem come_at {B : Bk} {R d : Int} (hB : B.Ok) (hR : B.rnd = R) (h0 : 0 ≤ R) (hd : 0 ≤ d) (hb : R + d ≤ 4611686018427387904) : come B (R + d) = ⟨B.rate, B.cap, min (B.tok + B.rate * d) B.cap, R + d⟩ := by
  obtain ⟨r0, r1, c0, c1, t0, t1, n0, n1⟩ := hB
  obtain ⟨ra, ca, ta, na⟩ := B
  simp only [] at *
  subst hR
  unfold come
  rw [cut_in (by omega) hb]
  simp only []
  by_cases h : na + d ≤ na
  · have : d = 0 := by omega
    subst this
    rw [if_pos h, Bk.mk.injEq]
    refine ⟨rfl, rfl, ?_, by omega⟩
    rw [Int.mul_zero]
    omega
  · rw [if_neg h, Bk.mk.injEq]
    refine ⟨rfl, rfl, ?_, rfl⟩
    rw [show na + d - na = d by omega]
theorem Bnd.step {M N : Bk} {k : Nat} {B C : Bk} {n m R d : Int} (h : Bnd M N k B C n m R) (hr : M.rate ≤ N.rate) (hc : M.cap ≤ N.cap) (hk : k ≤ 1000) (d0 : 0 ≤ d) (d1 : d ≤ 9) :
    Bnd M N (k + 1) (take B (R + d)) (take C (R + d)) (n + b2i (took B (R + d))) (m + b2i (took C (R + d))) (R + d) := by
  obtain ⟨okB, okC, rB, cB, rC, cC, nB, nC, R0, R1, n0, nM, nm, mk, tt⟩ := h
  have eB := come_at okB nB R0 d0 (by omega)
  have eC := come_at okC nC R0 d0 (by omega)
  have kB := take_ok okB (R + d)
  have kC := take_ok okC (R + d)
  have xB : 0 ≤ B.rate * d := Int.mul_nonneg okB.r0 d0
  have xC : B.rate * d ≤ C.rate * d := Int.mul_le_mul_of_nonneg_right (by rw [rB, rC]; exact hr) d0
  have xM : M.rate * (R + d) = M.rate * R + B.rate * d := by rw [Int.mul_add, rB]
  have bt := okB.t0
  have ct := okC.t0
  have bt1 := okB.t1
  have ct1 := okC.t1
  refine ⟨kB, kC, by rw [take_rate, rB], by rw [take_cap, cB], by rw [take_rate, rC], by rw [take_cap, cC], by rw [take_rnd, nB, cut_in (by omega) (by omega)]; omega, by rw [take_rnd, nC, cut_in (by omega) (by omega)]; omega, by omega, by omega, ?_, ?_, ?_, ?_, ?_⟩
  all_goals
    unfold took b2i
    try unfold take
    try rw [eB]
    try rw [eC]
    try rw [xM]
    simp only [bne_iff_ne, ne_eq]
    generalize B.rate * d = x at *
    generalize C.rate * d = y at *
    by_cases hb : min (B.tok + x) B.cap = 0 <;> by_cases hcz : min (C.tok + y) C.cap = 0 <;> simp only [hb, hcz, not_true, not_false_eq_true, if_true, if_false] <;> omega
def wide1 (x : Int) : Int := (max (min x 1000) (-1000)) + 1
theorem wide_rate (x : Int) (y z : Int) : (make x y).rate ≤ (make (wide1 x) z).rate := by simp only [make, wide1]; omega
theorem wide_cap (x y z : Int) : (make x y).cap ≤ (make z (wide1 y)).cap := by simp only [make, wide1]; omega
theorem bnd0 (M N : Bk) (hM : M.Ok) (hN : N.Ok) (h1 : M.tok = M.cap) (h2 : M.rnd = 0) (h3 : N.tok = N.cap) (h4 : N.rnd = 0) (hc : M.cap ≤ N.cap) : Bnd M N 0 M N 0 0 0 :=
  ⟨hM, hN, rfl, rfl, rfl, rfl, h2, h4, by omega, by omega, by omega, by rw [h1]; simp, by omega, by omega, by rw [h1, h3]; omega⟩
theorem most_eq (rate cap : Int) {R : Int} (h0 : 0 ≤ R) (h1 : R ≤ 10000) : most rate cap R = (make rate cap).cap + (make rate cap).rate * R := by
  obtain ⟨r0, r1, c0, c1, _, _, _, _⟩ := make_ok rate cap
  have m0 : 0 ≤ (make rate cap).rate * R := Int.mul_nonneg r0 h0
  have m1 : (make rate cap).rate * R ≤ 64 * 10000 := Int.mul_le_mul r1 h1 h0 (by omega)
  unfold most tmul tadd
  rw [cut_in (n := (make rate cap).rate) r0 (by omega), cut_in (n := R) h0 (by omega), cut_in (n := (make rate cap).rate * R) m0 (by omega), cut_in (n := (make rate cap).cap) (by omega) (by omega), cut_in (n := (make rate cap).rate * R) m0 (by omega), cut_in (by omega) (by omega)]
theorem took_rnd {B : Bk} {r : Int} (h0 : 0 ≤ r) (h1 : r ≤ 4611686018427387904) (h : B.rnd ≤ r) : come (take B r) r = take B r := come_old (by rw [take_rnd, cut_in h0 h1]; omega)
structure Duo (w W : World) (ga gb : Nat) (A B : Bk) : Prop where
  a : BK W ga A
  b : BK W gb B
  bel : Below w.heap.size w W
  ne : ga ≠ gb
  la : w.heap.size ≤ ga
  lb : w.heap.size ≤ gb
theorem Duo.onA {w W W' : World} {ga gb : Nat} {A B A' : Bk} (h : Duo w W ga gb A B) (hb : BK W' ga A') (hg : W.grownBy W' (some ga)) : Duo w W' ga gb A' B :=
  ⟨hb, h.b.kept hg (fun e => h.ne (by injection e with e; exact e.symm)), below_bk h.bel h.la hg, h.ne, h.la, h.lb⟩
theorem Duo.onB {w W W' : World} {ga gb : Nat} {A B B' : Bk} (h : Duo w W ga gb A B) (hb : BK W' gb B') (hg : W.grownBy W' (some gb)) : Duo w W' ga gb A B' :=
  ⟨h.a.kept hg (fun e => h.ne (by injection e with e)), hb, below_bk h.bel h.lb hg, h.ne, h.la, h.lb⟩
theorem Duo.far {w W W' : World} {ga gb : Nat} {A B : Bk} (h : Duo w W ga gb A B) (hb : Below W.heap.size W W') : Duo w W' ga gb A B :=
  ⟨(hb.block ga h.a.lt).trans h.a, (hb.block gb h.b.lt).trans h.b, below_step h.bel hb, h.ne, h.la, h.lb⟩
set_option maxHeartbeats 4000000 in
set_option maxRecDepth 100000 in
theorem bounds_any (rate cap : Int) (a : Option Addr) (n c : Nat) (L : Nat → Nat → Int) (hn : n ≤ c) (hc : c ≤ maxLen) (w : World) (hL : IntRows w a n 2 L) :
    Calls Try.prog 5 #[.int .i64 rate, .int .i64 cap, .slice a n c] w fun e w' => e = .returned (.bool true) ∧ Below w.heap.size w w' := by
  have HE := fun w => early_any a n c hn hc w
  have hm : min n 100 ≤ 100 := by omega
  have HL := Aside0.mk (hL.less (m := min n 100) (by omega))
  have hml : min n 100 ≤ n := by omega
  unfold maxLen at hc
  generalize min n 100 = len at HE hm HL hml
  have HEE := Aside0.mk HE
  clear HE hL
  obtain ⟨u, hu⟩ : ∃ u : Int, (if 1000 < rate then 1000 else rate) = u := ⟨_, rfl⟩
  obtain ⟨v, hv⟩ : ∃ v : Int, (if u < -1000 then -1000 else u) = v := ⟨_, rfl⟩
  obtain ⟨u2, hu2⟩ : ∃ u2 : Int, (if 1000 < cap then 1000 else cap) = u2 := ⟨_, rfl⟩
  obtain ⟨v2, hv2⟩ : ∃ v2 : Int, (if u2 < -1000 then -1000 else u2) = v2 := ⟨_, rfl⟩
  have e1 : v + 1 = wide1 rate := by
    unfold wide1
    rw [← hv, ← hu]
    split <;> split <;> omega
  have e2 : v2 + 1 = wide1 cap := by
    unfold wide1
    rw [← hv2, ← hu2]
    split <;> split <;> omega
  have bv : -1000 ≤ v ∧ v ≤ 1000 := by
    rw [← hv, ← hu]
    split <;> split <;> omega
  have bv2 : -1000 ≤ v2 ∧ v2 ≤ 1000 := by
    rw [← hv2, ← hu2]
    split <;> split <;> omega
  have hr : (make rate cap).rate ≤ (make (v + 1) (v2 + 1)).rate := by rw [e1]; exact wide_rate _ _ _
  have hcc : (make rate cap).cap ≤ (make (v + 1) (v2 + 1)).cap := by rw [e2]; exact wide_cap _ _ _
  have I0 := Aside0.mk (bnd0 (make rate cap) (make (v + 1) (v2 + 1)) (make_ok _ _) (make_ok _ _) rfl rfl rfl rfl hcc)
  have HRR := Aside0.mk hr
  have HCC := Aside0.mk hcc
  obtain ⟨bv1, bv1'⟩ := bv
  obtain ⟨bv2a, bv2b⟩ := bv2
  have HM := Aside0.mk (fun R h0 h1 => most_eq rate cap (R := R) h0 h1)
  have MOK := Aside0.mk (make_ok rate cap)
  clear e1 e2 hr hcc
  go_enter Try.func5, Try.ntmps5
  go_wp2_with (first | (go_at_call 8; refine (lives_any _).mono ?_; rintro e w1 ⟨rfl, hb⟩; have HW1 := Aside0.mk hb; clear hb) | (go_at_call 9; refine (new_any _ _ _).mono ?_; rintro e w' ⟨rfl, rfl⟩) | (go_at_call 16; refine (HEE.out _).mono ?_; rintro e w' ⟨rfl, rfl⟩))
  have hs : w.heap.size ≤ w1.heap.size := HW1.out.size
  have BA := Aside0.mk (show BK ((w1.alloc (.cells #[.int .i64 (make rate cap).rate, .int .i64 (make rate cap).cap, .int .i64 (make rate cap).tok, .int .i64 (make rate cap).rnd] 49)).alloc (.cells #[.int .i64 (make (v + 1) (v2 + 1)).rate, .int .i64 (make (v + 1) (v2 + 1)).cap, .int .i64 (make (v + 1) (v2 + 1)).tok, .int .i64 (make (v + 1) (v2 + 1)).rnd] 49)) w1.heap.size (make rate cap) from blk_alloc (by simpa using heap_alloc_new w1 _) _)
  have BB := Aside0.mk (show BK ((w1.alloc (.cells #[.int .i64 (make rate cap).rate, .int .i64 (make rate cap).cap, .int .i64 (make rate cap).tok, .int .i64 (make rate cap).rnd] 49)).alloc (.cells #[.int .i64 (make (v + 1) (v2 + 1)).rate, .int .i64 (make (v + 1) (v2 + 1)).cap, .int .i64 (make (v + 1) (v2 + 1)).tok, .int .i64 (make (v + 1) (v2 + 1)).rnd] 49)) (w1.heap.size + 1) (make (v + 1) (v2 + 1)) by
    have := heap_alloc_new (w1.alloc (.cells #[.int .i64 (make rate cap).rate, .int .i64 (make rate cap).cap, .int .i64 (make rate cap).tok, .int .i64 (make rate cap).rnd] 49)) (.cells #[.int .i64 (make (v + 1) (v2 + 1)).rate, .int .i64 (make (v + 1) (v2 + 1)).cap, .int .i64 (make (v + 1) (v2 + 1)).tok, .int .i64 (make (v + 1) (v2 + 1)).rnd] 49)
    simpa [BK] using this)
  have BW := Aside0.mk (below_alloc (below_alloc HW1.out (.cells #[.int .i64 (make rate cap).rate, .int .i64 (make rate cap).cap, .int .i64 (make rate cap).tok, .int .i64 (make rate cap).rnd] 49)) (.cells #[.int .i64 (make (v + 1) (v2 + 1)).rate, .int .i64 (make (v + 1) (v2 + 1)).cap, .int .i64 (make (v + 1) (v2 + 1)).tok, .int .i64 (make (v + 1) (v2 + 1)).rnd] 49))
  obtain ⟨M, hM⟩ : ∃ M, make rate cap = M := ⟨_, rfl⟩
  obtain ⟨N, hN⟩ : ∃ N, make (v + 1) (v2 + 1) = N := ⟨_, rfl⟩
  rw [hM] at HRR HCC HM MOK I0
  rw [hN] at HRR HCC I0
  have BA' := BA
  have BB' := BB
  rw [hM, hN] at BA BB BW ⊢
  have D0 := Aside0.mk (Duo.mk (w := w) BA.out BB.out BW.out (by omega) hs (by omega))
  clear BA' BB' BA BB BW hM hN hu hv hu2 hv2 bv1 bv1' bv2a bv2b hs
  go_loopw [9, 10, 11, 12] (fun r x y i wr => ∃ (k : Nat) (B C : Bk) (p q R : Int), k ≤ len ∧ r = .int .i64 R ∧ x = .int .i64 p ∧ y = .int .i64 q ∧ i = .int .i64 k ∧ Aside0 (Bnd M N k B C p q R) ∧ Aside0 (Duo w wr w1.heap.size (w1.heap.size + 1) B C)) (fun _ _ _ i _ => len - (intOf i).toNat)
  case atStart => exact ⟨0, M, N, 0, 0, 0, by omega, rfl, rfl, rfl, rfl, I0, D0⟩
  case round =>
    clear I0 D0
    obtain ⟨k, B, C, p, q, R, hk, rfl, rfl, rfl, rfl, HI, HD⟩ := hrel
    have R0 := HI.out.R0
    have R1 := HI.out.R1
    have p0 := HI.out.n0
    have pq := HI.out.nm
    have qk := HI.out.mle
    by_cases hlt : k < len
    · obtain ⟨bs, off, rfl, hcell⟩ := (HL.out.below HD.out.bel).at_ hlt
      have c1 := hcell 1 (by omega)
      clear hcell
      obtain ⟨d0, d1⟩ := um2 (L k 1)
      obtain ⟨D, hD⟩ : ∃ D, wrap64 (IntKind.u64.wrap (((IntKind.u64.wrap (L k 1)).tmod 1000).tdiv 100)) = D := ⟨_, rfl⟩
      rw [hD] at d0 d1
      go_wp2_with (fail)
      rw [hD]
      clear hD c1
      have HB1 := Aside0.mk (took_rnd (B := B) (r := R + D) (by omega) (by omega) (by have := HI.out.nB; omega))
      have HI1 := HI.out.step HRR.out HCC.out (by omega) d0 d1
      have CA := Aside0.mk (take_any HI.out.okB (R + D) HD.out.a)
      cases htb : took B (R + D) with
      | true =>
        cases htc : took C (R + D) with
        | true =>
          simp only [htb, htc, b2i_t, b2i_f, Int.add_zero] at HI1
          rw [htb] at CA
          have HC0 := Aside0.mk (fun (W : World) (h : BK W (w1.heap.size + 1) C) => by have := take_any HI.out.okC (R + D) h; rw [htc] at this; exact this)
          obtain ⟨B1, hB1⟩ : ∃ B1, take B (R + D) = B1 := ⟨_, rfl⟩
          obtain ⟨C1, hC1⟩ : ∃ C1, take C (R + D) = C1 := ⟨_, rfl⟩
          rw [hB1] at HI1 CA HB1
          rw [hC1] at HI1 HC0
          clear htb htc hB1 hC1
          have t0 := HI1.okB.t0
          have t1 := HI1.okB.t1
          have q0 := HI1.nM
          have q1 := HI1.nm
          have HC1 := Aside0.mk (fun (W : World) (h : BK W w1.heap.size B1) => by have := tokens_any HI1.okB (R + D) h; rw [HB1.out] at this; exact this)
          have HC2 := Aside0.mk (fun (W : World) (h : BK W w1.heap.size B1) => cap_any h)
          have HC3 := Aside0.mk (fun (W : World) (h : BK W w1.heap.size B1) => by have := round_any h; rw [HI1.nB] at this; exact this)
          have HC4 := Aside0.mk (fun (W : World) => by have := most_any rate cap (R + D) W; rw [HM.out (R + D) (by omega) (by omega)] at this; exact this)
          obtain ⟨Z, hZ⟩ : ∃ Z, M.cap + M.rate * (R + D) = Z := ⟨_, rfl⟩
          rw [hZ] at HC4 q0
          have z1 := Aside0.mk hZ
          have HI2 := Aside0.mk HI1
          clear hZ HI1 HI HB1
          have x1 : decide (B1.tok < 0) = false := decide_eq_false (by omega)
          have x2 : decide (B1.cap < B1.tok) = false := decide_eq_false (by omega)
          refine CA.out.mono ?_
          clear CA
          rintro e w2 ⟨rfl, hb, hg⟩
          have HD2 := Aside0.mk (HD.out.onA hb hg)
          clear hb hg HD
          have CB := Aside0.mk (HC0.out _ HD2.out.b)
          go_wp2_with (first
            | (go_at_call 10; refine CB.out.mono ?_; clear CB; rintro e w3 ⟨rfl, hb, hg⟩; have HD3 := Aside0.mk (HD2.out.onB hb hg); clear hb hg; have CC := Aside0.mk (HC1.out _ HD3.out.a))
            | (go_at_call 11; refine CC.out.mono ?_; clear CC; rintro e w4 ⟨rfl, hb, hg⟩; have HD4 := Aside0.mk (HD3.out.onA hb hg); clear hb hg; have CD := Aside0.mk (HC2.out _ HD4.out.a))
            | (go_at_call 15; refine CD.out.mono ?_; clear CD; rintro e w5 ⟨rfl, rfl⟩; have CE := Aside0.mk (HC4.out w4))
            | (go_at_call 17; refine CE.out.mono ?_; clear CE; rintro e w6 ⟨rfl, hb⟩; have HD6 := Aside0.mk (HD4.out.far hb); clear hb; have CF := Aside0.mk (HC3.out _ HD6.out.a))
            | (go_at_call 12; refine CF.out.mono ?_; clear CF; rintro e w7 ⟨rfl, rfl⟩))
          go_roundw
          case rel => exact ⟨k + 1, B1, C1, _, _, R + D, by omega, rfl, rfl, rfl, by go_num, HI2, HD6⟩
          case measure => simp [intOf]; omega
        | false =>
          simp only [htb, htc, b2i_t, b2i_f, Int.add_zero] at HI1
          rw [htb] at CA
          have HC0 := Aside0.mk (fun (W : World) (h : BK W (w1.heap.size + 1) C) => by have := take_any HI.out.okC (R + D) h; rw [htc] at this; exact this)
          obtain ⟨B1, hB1⟩ : ∃ B1, take B (R + D) = B1 := ⟨_, rfl⟩
          obtain ⟨C1, hC1⟩ : ∃ C1, take C (R + D) = C1 := ⟨_, rfl⟩
          rw [hB1] at HI1 CA HB1
          rw [hC1] at HI1 HC0
          clear htb htc hB1 hC1
          have t0 := HI1.okB.t0
          have t1 := HI1.okB.t1
          have q0 := HI1.nM
          have q1 := HI1.nm
          have HC1 := Aside0.mk (fun (W : World) (h : BK W w1.heap.size B1) => by have := tokens_any HI1.okB (R + D) h; rw [HB1.out] at this; exact this)
          have HC2 := Aside0.mk (fun (W : World) (h : BK W w1.heap.size B1) => cap_any h)
          have HC3 := Aside0.mk (fun (W : World) (h : BK W w1.heap.size B1) => by have := round_any h; rw [HI1.nB] at this; exact this)
          have HC4 := Aside0.mk (fun (W : World) => by have := most_any rate cap (R + D) W; rw [HM.out (R + D) (by omega) (by omega)] at this; exact this)
          obtain ⟨Z, hZ⟩ : ∃ Z, M.cap + M.rate * (R + D) = Z := ⟨_, rfl⟩
          rw [hZ] at HC4 q0
          have z1 := Aside0.mk hZ
          have HI2 := Aside0.mk HI1
          clear hZ HI1 HI HB1
          have x1 : decide (B1.tok < 0) = false := decide_eq_false (by omega)
          have x2 : decide (B1.cap < B1.tok) = false := decide_eq_false (by omega)
          refine CA.out.mono ?_
          clear CA
          rintro e w2 ⟨rfl, hb, hg⟩
          have HD2 := Aside0.mk (HD.out.onA hb hg)
          clear hb hg HD
          have CB := Aside0.mk (HC0.out _ HD2.out.b)
          go_wp2_with (first
            | (go_at_call 10; refine CB.out.mono ?_; clear CB; rintro e w3 ⟨rfl, hb, hg⟩; have HD3 := Aside0.mk (HD2.out.onB hb hg); clear hb hg; have CC := Aside0.mk (HC1.out _ HD3.out.a))
            | (go_at_call 11; refine CC.out.mono ?_; clear CC; rintro e w4 ⟨rfl, hb, hg⟩; have HD4 := Aside0.mk (HD3.out.onA hb hg); clear hb hg; have CD := Aside0.mk (HC2.out _ HD4.out.a))
            | (go_at_call 15; refine CD.out.mono ?_; clear CD; rintro e w5 ⟨rfl, rfl⟩; have CE := Aside0.mk (HC4.out w4))
            | (go_at_call 17; refine CE.out.mono ?_; clear CE; rintro e w6 ⟨rfl, hb⟩; have HD6 := Aside0.mk (HD4.out.far hb); clear hb; have CF := Aside0.mk (HC3.out _ HD6.out.a))
            | (go_at_call 12; refine CF.out.mono ?_; clear CF; rintro e w7 ⟨rfl, rfl⟩))
          go_roundw
          case rel => exact ⟨k + 1, B1, C1, _, _, R + D, by omega, rfl, rfl, rfl, by go_num, HI2, HD6⟩
          case measure => simp [intOf]; omega
      | false =>
        cases htc : took C (R + D) with
        | true =>
          simp only [htb, htc, b2i_t, b2i_f, Int.add_zero] at HI1
          rw [htb] at CA
          have HC0 := Aside0.mk (fun (W : World) (h : BK W (w1.heap.size + 1) C) => by have := take_any HI.out.okC (R + D) h; rw [htc] at this; exact this)
          obtain ⟨B1, hB1⟩ : ∃ B1, take B (R + D) = B1 := ⟨_, rfl⟩
          obtain ⟨C1, hC1⟩ : ∃ C1, take C (R + D) = C1 := ⟨_, rfl⟩
          rw [hB1] at HI1 CA HB1
          rw [hC1] at HI1 HC0
          clear htb htc hB1 hC1
          have t0 := HI1.okB.t0
          have t1 := HI1.okB.t1
          have q0 := HI1.nM
          have q1 := HI1.nm
          have HC1 := Aside0.mk (fun (W : World) (h : BK W w1.heap.size B1) => by have := tokens_any HI1.okB (R + D) h; rw [HB1.out] at this; exact this)
          have HC2 := Aside0.mk (fun (W : World) (h : BK W w1.heap.size B1) => cap_any h)
          have HC3 := Aside0.mk (fun (W : World) (h : BK W w1.heap.size B1) => by have := round_any h; rw [HI1.nB] at this; exact this)
          have HC4 := Aside0.mk (fun (W : World) => by have := most_any rate cap (R + D) W; rw [HM.out (R + D) (by omega) (by omega)] at this; exact this)
          obtain ⟨Z, hZ⟩ : ∃ Z, M.cap + M.rate * (R + D) = Z := ⟨_, rfl⟩
          rw [hZ] at HC4 q0
          have z1 := Aside0.mk hZ
          have HI2 := Aside0.mk HI1
          clear hZ HI1 HI HB1
          have x1 : decide (B1.tok < 0) = false := decide_eq_false (by omega)
          have x2 : decide (B1.cap < B1.tok) = false := decide_eq_false (by omega)
          refine CA.out.mono ?_
          clear CA
          rintro e w2 ⟨rfl, hb, hg⟩
          have HD2 := Aside0.mk (HD.out.onA hb hg)
          clear hb hg HD
          have CB := Aside0.mk (HC0.out _ HD2.out.b)
          go_wp2_with (first
            | (go_at_call 10; refine CB.out.mono ?_; clear CB; rintro e w3 ⟨rfl, hb, hg⟩; have HD3 := Aside0.mk (HD2.out.onB hb hg); clear hb hg; have CC := Aside0.mk (HC1.out _ HD3.out.a))
            | (go_at_call 11; refine CC.out.mono ?_; clear CC; rintro e w4 ⟨rfl, hb, hg⟩; have HD4 := Aside0.mk (HD3.out.onA hb hg); clear hb hg; have CD := Aside0.mk (HC2.out _ HD4.out.a))
            | (go_at_call 15; refine CD.out.mono ?_; clear CD; rintro e w5 ⟨rfl, rfl⟩; have CE := Aside0.mk (HC4.out w4))
            | (go_at_call 17; refine CE.out.mono ?_; clear CE; rintro e w6 ⟨rfl, hb⟩; have HD6 := Aside0.mk (HD4.out.far hb); clear hb; have CF := Aside0.mk (HC3.out _ HD6.out.a))
            | (go_at_call 12; refine CF.out.mono ?_; clear CF; rintro e w7 ⟨rfl, rfl⟩))
          go_roundw
          case rel => exact ⟨k + 1, B1, C1, _, _, R + D, by omega, rfl, rfl, rfl, by go_num, HI2, HD6⟩
          case measure => simp [intOf]; omega
        | false =>
          simp only [htb, htc, b2i_t, b2i_f, Int.add_zero] at HI1
          rw [htb] at CA
          have HC0 := Aside0.mk (fun (W : World) (h : BK W (w1.heap.size + 1) C) => by have := take_any HI.out.okC (R + D) h; rw [htc] at this; exact this)
          obtain ⟨B1, hB1⟩ : ∃ B1, take B (R + D) = B1 := ⟨_, rfl⟩
          obtain ⟨C1, hC1⟩ : ∃ C1, take C (R + D) = C1 := ⟨_, rfl⟩
          rw [hB1] at HI1 CA HB1
          rw [hC1] at HI1 HC0
          clear htb htc hB1 hC1
          have t0 := HI1.okB.t0
          have t1 := HI1.okB.t1
          have q0 := HI1.nM
          have q1 := HI1.nm
          have HC1 := Aside0.mk (fun (W : World) (h : BK W w1.heap.size B1) => by have := tokens_any HI1.okB (R + D) h; rw [HB1.out] at this; exact this)
          have HC2 := Aside0.mk (fun (W : World) (h : BK W w1.heap.size B1) => cap_any h)
          have HC3 := Aside0.mk (fun (W : World) (h : BK W w1.heap.size B1) => by have := round_any h; rw [HI1.nB] at this; exact this)
          have HC4 := Aside0.mk (fun (W : World) => by have := most_any rate cap (R + D) W; rw [HM.out (R + D) (by omega) (by omega)] at this; exact this)
          obtain ⟨Z, hZ⟩ : ∃ Z, M.cap + M.rate * (R + D) = Z := ⟨_, rfl⟩
          rw [hZ] at HC4 q0
          have z1 := Aside0.mk hZ
          have HI2 := Aside0.mk HI1
          clear hZ HI1 HI HB1
          have x1 : decide (B1.tok < 0) = false := decide_eq_false (by omega)
          have x2 : decide (B1.cap < B1.tok) = false := decide_eq_false (by omega)
          refine CA.out.mono ?_
          clear CA
          rintro e w2 ⟨rfl, hb, hg⟩
          have HD2 := Aside0.mk (HD.out.onA hb hg)
          clear hb hg HD
          have CB := Aside0.mk (HC0.out _ HD2.out.b)
          go_wp2_with (first
            | (go_at_call 10; refine CB.out.mono ?_; clear CB; rintro e w3 ⟨rfl, hb, hg⟩; have HD3 := Aside0.mk (HD2.out.onB hb hg); clear hb hg; have CC := Aside0.mk (HC1.out _ HD3.out.a))
            | (go_at_call 11; refine CC.out.mono ?_; clear CC; rintro e w4 ⟨rfl, hb, hg⟩; have HD4 := Aside0.mk (HD3.out.onA hb hg); clear hb hg; have CD := Aside0.mk (HC2.out _ HD4.out.a))
            | (go_at_call 15; refine CD.out.mono ?_; clear CD; rintro e w5 ⟨rfl, rfl⟩; have CE := Aside0.mk (HC4.out w4))
            | (go_at_call 17; refine CE.out.mono ?_; clear CE; rintro e w6 ⟨rfl, hb⟩; have HD6 := Aside0.mk (HD4.out.far hb); clear hb; have CF := Aside0.mk (HC3.out _ HD6.out.a))
            | (go_at_call 12; refine CF.out.mono ?_; clear CF; rintro e w7 ⟨rfl, rfl⟩))
          go_roundw
          case rel => exact ⟨k + 1, B1, C1, _, _, R + D, by omega, rfl, rfl, rfl, by go_num, HI2, HD6⟩
          case measure => simp [intOf]; omega
    · obtain rfl : k = len := by omega
      have cb := HI.out.cB
      have rb := HI.out.rB
      have x1 : 1 ≤ B.cap := HI.out.okB.c0
      have x2 : B.cap ≤ 64 := HI.out.okB.c1
      have x3 : 0 ≤ B.rate := HI.out.okB.r0
      have x4 : B.rate ≤ 64 := HI.out.okB.r1
      have HC := Aside0.mk (cap_any HD.out.a)
      have HR := Aside0.mk (rate_any HD.out.a)
      clear cb rb
      go_wp2_with (first
        | (go_at_call 15; refine HC.out.mono ?_; rintro e w7 ⟨rfl, rfl⟩)
        | (go_at_call 14; refine HR.out.mono ?_; rintro e w7 ⟨rfl, rfl⟩))
      go_ret
      exact ⟨rfl, HD.out.bel⟩
end Go.Proofs.Ytpjjienjfbimjaa.Bk
