/- Layer 4 (config): the document's near and channel: a channel that is right, made of any. -/
import Derived.Test.YtdebbanloopcgaaDoorCfM1
set_option linter.unusedVariables false
set_option linter.unusedSimpArgs false
namespace Go.Proofs.YtdebbanloopcgaaDoor.Cf
open Go.RowKit Go.Proofs.YtdebbanloopcgaaDoorW.PrintWords Go.Proofs.YtdebbanloopcgaaDoorW.PrintLast Go.Proofs.YtdebbanloopcgaaDoorW.PrintMore Go.Proofs.YtdebbanloopcgaaDoor.Cz Go.Proofs.YtdebbanloopcgaaDoor.PTableWrites
attribute [local go_sem] max2_int min2_int max_two min_two max_three min_three max_four min_four Tryd.underlying57
/-- A number from l on, m at most, made of any. -/
def nearV (a l m : Int) : Int := l + Int.tmod (IntKind.u64.wrap a) m
theorem near_b (a l : Int) {m : Int} (hm : 1 ≤ m) : l ≤ nearV a l m ∧ nearV a l m < l + m := by
  have h0 : 0 ≤ IntKind.u64.wrap a := by simp [IntKind.wrap, IntKind.bits, IntKind.signed]; omega
  have h1 : 0 ≤ Int.tmod (IntKind.u64.wrap a) m := Int.tmod_nonneg _ h0
  have h2 : Int.tmod (IntKind.u64.wrap a) m < m := Int.tmod_lt_of_pos _ (by omega)
  unfold nearV
  omega
theorem near_any (a l m : Int) (hm : 1 ≤ m ∧ m ≤ 1000) (hl : -1000 ≤ l ∧ l ≤ 1000) (w : World) : Calls Tryd.prog 28 #[.int .i64 a, .int .i64 l, .int .i64 m] w fun e w' => e = .returned (.int .i64 (nearV a l m)) ∧ w = w' := by
  have hu : IntKind.u64.wrap m = m := by simp [IntKind.wrap, IntKind.bits, IntKind.signed]; omega
  have h0 : 0 ≤ IntKind.u64.wrap a := by simp [IntKind.wrap, IntKind.bits, IntKind.signed]; omega
  have h1 : 0 ≤ Int.tmod (IntKind.u64.wrap a) m := Int.tmod_nonneg _ h0
  have h2 : Int.tmod (IntKind.u64.wrap a) m < m := Int.tmod_lt_of_pos _ (by omega)
  have hz : m ≠ 0 := by omega
  have e1 : wrap64 (Int.tmod (IntKind.u64.wrap a) m) = Int.tmod (IntKind.u64.wrap a) m := by unfold wrap64; omega
  have e2 : wrap64 (l + Int.tmod (IntKind.u64.wrap a) m) = nearV a l m := by unfold nearV wrap64; omega
  have E1 := Aside0.mk e1
  have E2 := Aside0.mk e2
  clear h1 h2 h0 hl e1 e2
  go_enter Tryd.func28, Tryd.ntmps28
  go_wp2
  go_ret
  exact ⟨by rw [E1.out, E2.out]; rfl, rfl⟩
/-- A channel that is right, made of any, of p partitions. -/
def chanV (x : S57) (p : Int) : S57 :=
  if nearV x.f0 0 2 = 0 then ⟨nearV x.f0 0 2, nearV x.f1 0 p, (nearV x.f1 0 p + nearV x.f2 1 (p - 1)) % p, nearV x.f3 1 4, nearV x.f4 1 30, 0, 0, 0, 0, 0, 0⟩
  else ⟨nearV x.f0 0 2, nearV x.f1 0 p, (nearV x.f1 0 p + nearV x.f2 1 (p - 1)) % p, nearV x.f3 1 4, 0, nearV x.f5 1 3, nearV x.f6 1 4, nearV x.f7 1 4, nearV x.f8 1 60, nearV x.f9 0 5, nearV x.f10 1 6⟩
theorem chanV_right (x : S57) {p : Int} (hp : 2 ≤ p ∧ p ≤ 4) : rB p (chanV x p) = true := by
  unfold chanV
  have b0 := near_b x.f0 0 (m := 2) (by omega)
  have b1 := near_b x.f1 0 (m := p) (by omega)
  have b2 := near_b x.f2 1 (m := p - 1) (by omega)
  have b3 := near_b x.f3 1 (m := 4) (by omega)
  have b4 := near_b x.f4 1 (m := 30) (by omega)
  have b5 := near_b x.f5 1 (m := 3) (by omega)
  have b6 := near_b x.f6 1 (m := 4) (by omega)
  have b7 := near_b x.f7 1 (m := 4) (by omega)
  have b8 := near_b x.f8 1 (m := 60) (by omega)
  have b9 := near_b x.f9 0 (m := 5) (by omega)
  have b10 := near_b x.f10 1 (m := 6) (by omega)
  generalize nearV x.f0 0 2 = r0 at *
  generalize nearV x.f1 0 p = r1 at *
  generalize nearV x.f2 1 (p - 1) = r2 at *
  generalize nearV x.f3 1 4 = r3 at *
  generalize nearV x.f4 1 30 = r4 at *
  generalize nearV x.f5 1 3 = r5 at *
  generalize nearV x.f6 1 4 = r6 at *
  generalize nearV x.f7 1 4 = r7 at *
  generalize nearV x.f8 1 60 = r8 at *
  generalize nearV x.f9 0 5 = r9 at *
  generalize nearV x.f10 1 6 = r10 at *
  have hto : 0 ≤ (r1 + r2) % p ∧ (r1 + r2) % p < p ∧ (r1 + r2) % p ≠ r1 := by
    obtain rfl | rfl | rfl : p = 2 ∨ p = 3 ∨ p = 4 := by omega
    all_goals omega
  generalize (r1 + r2) % p = tt at hto
  obtain ⟨t1, t2, t3⟩ := hto
  have m1 : decide ((if tt < r1 then tt else r1) < 0) = false := decide_eq_false (by split <;> omega)
  have m2 : decide (p ≤ (if r1 < tt then tt else r1)) = false := decide_eq_false (by split <;> omega)
  have m3 : (r1 == tt) = false := by rw [beq_eq_false_iff_ne]; omega
  have m4 : btw r3 1 4 = true := decide_eq_true (by omega)
  by_cases h0 : r0 = 0
  · rw [if_pos h0]
    have m5 : btw r4 1 65536 = true := decide_eq_true (by omega)
    show rightB p r0 r1 tt r3 r4 0 0 0 0 0 0 = true
    unfold rightB
    rw [m1, m2, m3, m4, m5, h0]
    rfl
  · rw [if_neg h0]
    have h1 : r0 = 1 := by omega
    have m5 : btw r5 1 3 = true := decide_eq_true (by omega)
    have m6 : btw r6 1 8 = true := decide_eq_true (by omega)
    have m7 : btw r7 1 8 = true := decide_eq_true (by omega)
    have m8 : btw r8 1 65536 = true := decide_eq_true (by omega)
    have m9 : btw r9 0 64 = true := decide_eq_true (by omega)
    have m10 : btw r10 1 64 = true := decide_eq_true (by omega)
    show rightB p r0 r1 tt r3 0 r5 r6 r7 r8 r9 r10 = true
    unfold rightB
    rw [m1, m2, m3, m4, m5, m6, m7, m8, m9, m10, h1]
    rfl
/-- channel's blocks. -/
structure CH (w W : World) (ob : Nat) (xs os : Array Value) : Prop where
  xb : W.heap[w.heap.size]? = some (.cells xs 57 (0, 0))
  rb : W.heap[w.heap.size + 1]? = some (.cells #[.int .i64 0, .int .i64 0, .int .i64 0, .int .i64 0, .int .i64 0, .int .i64 0, .int .i64 0, .int .i64 0, .int .i64 0, .int .i64 0, .int .i64 0] 57 (0, 0))
  gb : W.heap[ob]? = some (.cells os 57 (0, 0))
  hob : w.heap.size + 2 ≤ ob
  bel : Below w.heap.size w W
theorem CH.drew {w W : World} {ob : Nat} {xs os : Array Value} (h : CH w W ob xs os) : CH w W.drew ob xs os := ⟨blk_drew h.xb, blk_drew h.rb, blk_drew h.gb, h.hob, below_drew h.bel⟩
theorem CH.put {w W : World} {ob : Nat} {xs os os' : Array Value} (h : CH w W ob xs os) (j : Nat) (v : Value) (e : os.setIfInBounds j v = os') : CH w (W.setCell ⟨ob, j, none⟩ v) ob xs os' := by
  have := h.hob
  exact ⟨blk_far (p := ⟨ob, j, none⟩) h.xb (by show w.heap.size ≠ ob; omega) v, blk_far (p := ⟨ob, j, none⟩) h.rb (by show w.heap.size + 1 ≠ ob; omega) v, blk_put h.gb j v e, h.hob, below_set h.bel (by omega)⟩
theorem chan_two (w : World) (xs : Array Value) : ((w.alloc (.cells xs 57)).alloc (.cells #[.int .i64 0, .int .i64 0, .int .i64 0, .int .i64 0, .int .i64 0, .int .i64 0, .int .i64 0, .int .i64 0, .int .i64 0, .int .i64 0, .int .i64 0] 57)).heap[w.heap.size]? = some (.cells xs 57 (0, 0)) ∧ ((w.alloc (.cells xs 57)).alloc (.cells #[.int .i64 0, .int .i64 0, .int .i64 0, .int .i64 0, .int .i64 0, .int .i64 0, .int .i64 0, .int .i64 0, .int .i64 0, .int .i64 0, .int .i64 0] 57)).heap[w.heap.size + 1]? = some (.cells #[.int .i64 0, .int .i64 0, .int .i64 0, .int .i64 0, .int .i64 0, .int .i64 0, .int .i64 0, .int .i64 0, .int .i64 0, .int .i64 0, .int .i64 0] 57 (0, 0)) ∧ Below w.heap.size w ((w.alloc (.cells xs 57)).alloc (.cells #[.int .i64 0, .int .i64 0, .int .i64 0, .int .i64 0, .int .i64 0, .int .i64 0, .int .i64 0, .int .i64 0, .int .i64 0, .int .i64 0, .int .i64 0] 57)) ∧ ((w.alloc (.cells xs 57)).alloc (.cells #[.int .i64 0, .int .i64 0, .int .i64 0, .int .i64 0, .int .i64 0, .int .i64 0, .int .i64 0, .int .i64 0, .int .i64 0, .int .i64 0, .int .i64 0] 57)).heap.size = w.heap.size + 2 :=
  ⟨blk_alloc (blk_new w _) _, by have := blk_new (w.alloc (.cells xs 57)) (.cells #[.int .i64 0, .int .i64 0, .int .i64 0, .int .i64 0, .int .i64 0, .int .i64 0, .int .i64 0, .int .i64 0, .int .i64 0, .int .i64 0, .int .i64 0] 57); rw [World.size_alloc] at this; exact this, below_alloc (below_alloc (Below.refl _ _) _) _, by rw [World.size_alloc, World.size_alloc]⟩
set_option maxHeartbeats 8000000 in
set_option maxRecDepth 100000 in
theorem chan_any (x0 x1 x2 x3 x4 x5 x6 x7 x8 x9 x10 p : Int) (hp : 2 ≤ p ∧ p ≤ 4) (w : World) :
    Calls Tryd.prog 29 #[.agg #[.int .i64 x0, .int .i64 x1, .int .i64 x2, .int .i64 x3, .int .i64 x4, .int .i64 x5, .int .i64 x6, .int .i64 x7, .int .i64 x8, .int .i64 x9, .int .i64 x10], .int .i64 p] w fun e w' => e = .returned (.agg #[.int .i64 (chanV ⟨x0, x1, x2, x3, x4, x5, x6, x7, x8, x9, x10⟩ p).f0, .int .i64 (chanV ⟨x0, x1, x2, x3, x4, x5, x6, x7, x8, x9, x10⟩ p).f1, .int .i64 (chanV ⟨x0, x1, x2, x3, x4, x5, x6, x7, x8, x9, x10⟩ p).f2, .int .i64 (chanV ⟨x0, x1, x2, x3, x4, x5, x6, x7, x8, x9, x10⟩ p).f3, .int .i64 (chanV ⟨x0, x1, x2, x3, x4, x5, x6, x7, x8, x9, x10⟩ p).f4, .int .i64 (chanV ⟨x0, x1, x2, x3, x4, x5, x6, x7, x8, x9, x10⟩ p).f5, .int .i64 (chanV ⟨x0, x1, x2, x3, x4, x5, x6, x7, x8, x9, x10⟩ p).f6, .int .i64 (chanV ⟨x0, x1, x2, x3, x4, x5, x6, x7, x8, x9, x10⟩ p).f7, .int .i64 (chanV ⟨x0, x1, x2, x3, x4, x5, x6, x7, x8, x9, x10⟩ p).f8, .int .i64 (chanV ⟨x0, x1, x2, x3, x4, x5, x6, x7, x8, x9, x10⟩ p).f9, .int .i64 (chanV ⟨x0, x1, x2, x3, x4, x5, x6, x7, x8, x9, x10⟩ p).f10]) ∧ Below w.heap.size w w' := by
  have T := Aside0.mk Tryd.underlying57
  have hpw : wrap64 (p - 1) = p - 1 := by unfold wrap64; omega
  have hpi : IntKind.i64.wrap (p - 1) = p - 1 := by rw [IntWalk.i64_in _ (by omega)]
  have hpz : p ≠ 0 := by omega
  have hpb : (p == 0) = false := beq_eq_false_iff_ne.mpr hpz
  have b1 := near_b x1 0 (m := p) (by omega)
  have b2 := near_b x2 1 (m := p - 1) (by omega)
  have hsi : IntKind.i64.wrap (nearV x1 0 p + nearV x2 1 (p - 1)) = nearV x1 0 p + nearV x2 1 (p - 1) := IntWalk.i64_in _ (by omega)
  have tw := chan_two w #[.int .i64 x0, .int .i64 x1, .int .i64 x2, .int .i64 x3, .int .i64 x4, .int .i64 x5, .int .i64 x6, .int .i64 x7, .int .i64 x8, .int .i64 x9, .int .i64 x10]
  go_enter Tryd.func29, Tryd.ntmps29
  go_upto_region 1 with (first | fail)
  revert tw
  generalize ((w.alloc (.cells #[.int .i64 x0, .int .i64 x1, .int .i64 x2, .int .i64 x3, .int .i64 x4, .int .i64 x5, .int .i64 x6, .int .i64 x7, .int .i64 x8, .int .i64 x9, .int .i64 x10] 57)).alloc (.cells #[.int .i64 0, .int .i64 0, .int .i64 0, .int .i64 0, .int .i64 0, .int .i64 0, .int .i64 0, .int .i64 0, .int .i64 0, .int .i64 0, .int .i64 0] 57)) = W1
  intro tw
  have a0 := (blk_cell tw.1 0).trans (show _ = some (.int .i64 x0) from rfl)
  have a1 := (blk_cell tw.1 1).trans (show _ = some (.int .i64 x1) from rfl)
  have a3 := (blk_cell tw.1 3).trans (show _ = some (.int .i64 x3) from rfl)
  have TW := Aside0.mk tw
  clear tw
  have T3 := Aside0.mk (fun (W : World) (hh : W.heap[w.heap.size]? = some (.cells #[.int .i64 x0, .int .i64 x1, .int .i64 x2, .int .i64 x3, .int .i64 x4, .int .i64 x5, .int .i64 x6, .int .i64 x7, .int .i64 x8, .int .i64 x9, .int .i64 x10] 57 (0, 0))) => (⟨(blk_cell hh 0).trans rfl, (blk_cell hh 1).trans rfl, (blk_cell hh 3).trans rfl⟩ : W.cell? ⟨w.heap.size, 0, none⟩ = some (.int .i64 x0) ∧ W.cell? ⟨w.heap.size, 1, none⟩ = some (.int .i64 x1) ∧ W.cell? ⟨w.heap.size, 3, none⟩ = some (.int .i64 x3)))
  go_region_held3 (fun w' => w'.cell? ⟨w.heap.size, 0, none⟩ = some (.int .i64 x0) ∧ w'.cell? ⟨w.heap.size, 1, none⟩ = some (.int .i64 x1) ∧ w'.cell? ⟨w.heap.size, 3, none⟩ = some (.int .i64 x3)) (first | exact T3.out _ (blk_drew TW.out.1) | exact T3.out _ (blk_alloc (blk_drew TW.out.1) _) | exact T3.out _ (blk_drew (blk_alloc TW.out.1 _)) | go_keep) (first | (go_at_call 28; refine (near_any _ _ _ (by omega) (by omega) _).mono ?_; rintro e w' ⟨rfl, rfl⟩))
  clear a0 a1 a3 T3
  all_goals
    go_upto_region 2 with (first | fail)
    have H : CH w (W1.alloc (.cells #[.int .i64 (nearV x0 0 2), .int .i64 (nearV x1 0 p), .int .i64 0, .int .i64 (nearV x3 1 4), .int .i64 0, .int .i64 0, .int .i64 0, .int .i64 0, .int .i64 0, .int .i64 0, .int .i64 0] 57)).drew W1.heap.size #[.int .i64 x0, .int .i64 x1, .int .i64 x2, .int .i64 x3, .int .i64 x4, .int .i64 x5, .int .i64 x6, .int .i64 x7, .int .i64 x8, .int .i64 x9, .int .i64 x10] #[.int .i64 (nearV x0 0 2), .int .i64 (nearV x1 0 p), .int .i64 0, .int .i64 (nearV x3 1 4), .int .i64 0, .int .i64 0, .int .i64 0, .int .i64 0, .int .i64 0, .int .i64 0, .int .i64 0] := CH.drew ⟨blk_alloc TW.out.1 _, blk_alloc TW.out.2.1 _, blk_new W1 _, by rw [TW.out.2.2.2]; omega, below_alloc TW.out.2.2.1 _⟩
    revert H
    generalize (W1.alloc (.cells #[.int .i64 (nearV x0 0 2), .int .i64 (nearV x1 0 p), .int .i64 0, .int .i64 (nearV x3 1 4), .int .i64 0, .int .i64 0, .int .i64 0, .int .i64 0, .int .i64 0, .int .i64 0, .int .i64 0] 57)).drew = W2
    generalize W1.heap.size = ob
    intro H
    clear TW
    have a2 := (blk_cell H.xb 2).trans (show _ = some (.int .i64 x2) from rfl)
    have o1 := (blk_cell H.gb 1).trans (show _ = some (.int .i64 (nearV x1 0 p)) from rfl)
    have o2 := (blk_cell H.gb 2).trans (show _ = some (.int .i64 0) from rfl)
    have of2 := blk_frozen H.gb 2
    replace H := Aside0.mk H
    go_still_tail 11, (by kernel_rfl)
    still_call ((near_any _ _ _ (by omega) (by omega) _).mono (fun e w' h => ⟨h.1, h.2.symm⟩))
    repeat still_step
    try refine wpStill_nil ?_
    change wpList _ _ _ _ _ W2.drew
    clear a2 o1
    go_upto_region 3 with (first | fail)
    have H := (H.out.put 2 (.int .i64 ((nearV x1 0 p + nearV x2 1 (p - 1)) % p)) (show _ = #[.int .i64 (nearV x0 0 2), .int .i64 (nearV x1 0 p), .int .i64 ((nearV x1 0 p + nearV x2 1 (p - 1)) % p), .int .i64 (nearV x3 1 4), .int .i64 0, .int .i64 0, .int .i64 0, .int .i64 0, .int .i64 0, .int .i64 0, .int .i64 0] from rfl)).drew
    clear o2 of2 hsi hpi hpw b1 b2 hpz hpb
    revert H
    generalize ((W2.setCell ⟨ob, 2, none⟩ (.int .i64 ((nearV x1 0 p + nearV x2 1 (p - 1)) % p))).drew) = W3
    intro H
    replace H := Aside0.mk H
    have o0 := (blk_cell H.out.gb 0).trans (show _ = some (.int .i64 (nearV x0 0 2)) from rfl)
    by_cases hz : nearV x0 0 2 = 0
    · have HV : Aside0 (chanV ⟨x0, x1, x2, x3, x4, x5, x6, x7, x8, x9, x10⟩ p = ⟨nearV x0 0 2, nearV x1 0 p, (nearV x1 0 p + nearV x2 1 (p - 1)) % p, nearV x3 1 4, nearV x4 1 30, 0, 0, 0, 0, 0, 0⟩) := ⟨by unfold chanV; rw [if_pos hz]⟩
      have zb : (nearV x0 0 2 == 0) = true := beq_iff_eq.mpr hz
      have zd : decide (nearV x0 0 2 = 0) = true := decide_eq_true hz
      clear hz
      go_upto_region 4 with (first | fail)
      clear zb zd o0
      have a4 := (blk_cell H.out.xb 4).trans (show _ = some (.int .i64 x4) from rfl)
      have o4 := (blk_cell H.out.gb 4).trans (show _ = some (.int .i64 0) from rfl)
      have of4 := blk_frozen H.out.gb 4
      go_upto_region 5 with (first | (go_at_call 28; refine (near_any _ _ _ (by omega) (by omega) _).mono ?_; rintro e w' ⟨rfl, rfl⟩))
      have H := H.out.put 4 (.int .i64 (nearV x4 1 30)) (show _ = #[.int .i64 (nearV x0 0 2), .int .i64 (nearV x1 0 p), .int .i64 ((nearV x1 0 p + nearV x2 1 (p - 1)) % p), .int .i64 (nearV x3 1 4), .int .i64 (nearV x4 1 30), .int .i64 0, .int .i64 0, .int .i64 0, .int .i64 0, .int .i64 0, .int .i64 0] from rfl)
      clear a4 o4 of4
      revert H
      generalize (W3.setCell ⟨ob, 4, none⟩ (.int .i64 (nearV x4 1 30))) = W4
      intro H
      replace H := Aside0.mk H
      have o0 := (blk_cell H.out.gb 0).trans (show _ = some (.int .i64 (nearV x0 0 2)) from rfl)
      have r0 := (blk_cell H.out.rb 0).trans (show _ = some (.int .i64 0) from rfl)
      have rf0 := blk_frozen H.out.rb 0
      have o1 := (blk_cell H.out.gb 1).trans (show _ = some (.int .i64 (nearV x1 0 p)) from rfl)
      have r1 := (blk_cell H.out.rb 1).trans (show _ = some (.int .i64 0) from rfl)
      have rf1 := blk_frozen H.out.rb 1
      have o2 := (blk_cell H.out.gb 2).trans (show _ = some (.int .i64 ((nearV x1 0 p + nearV x2 1 (p - 1)) % p)) from rfl)
      have r2 := (blk_cell H.out.rb 2).trans (show _ = some (.int .i64 0) from rfl)
      have rf2 := blk_frozen H.out.rb 2
      have o3 := (blk_cell H.out.gb 3).trans (show _ = some (.int .i64 (nearV x3 1 4)) from rfl)
      have r3 := (blk_cell H.out.rb 3).trans (show _ = some (.int .i64 0) from rfl)
      have rf3 := blk_frozen H.out.rb 3
      have o4 := (blk_cell H.out.gb 4).trans (show _ = some (.int .i64 (nearV x4 1 30)) from rfl)
      have r4 := (blk_cell H.out.rb 4).trans (show _ = some (.int .i64 0) from rfl)
      have rf4 := blk_frozen H.out.rb 4
      have o5 := (blk_cell H.out.gb 5).trans (show _ = some (.int .i64 0) from rfl)
      have r5 := (blk_cell H.out.rb 5).trans (show _ = some (.int .i64 0) from rfl)
      have rf5 := blk_frozen H.out.rb 5
      have o6 := (blk_cell H.out.gb 6).trans (show _ = some (.int .i64 0) from rfl)
      have r6 := (blk_cell H.out.rb 6).trans (show _ = some (.int .i64 0) from rfl)
      have rf6 := blk_frozen H.out.rb 6
      have o7 := (blk_cell H.out.gb 7).trans (show _ = some (.int .i64 0) from rfl)
      have r7 := (blk_cell H.out.rb 7).trans (show _ = some (.int .i64 0) from rfl)
      have rf7 := blk_frozen H.out.rb 7
      have o8 := (blk_cell H.out.gb 8).trans (show _ = some (.int .i64 0) from rfl)
      have r8 := (blk_cell H.out.rb 8).trans (show _ = some (.int .i64 0) from rfl)
      have rf8 := blk_frozen H.out.rb 8
      have o9 := (blk_cell H.out.gb 9).trans (show _ = some (.int .i64 0) from rfl)
      have r9 := (blk_cell H.out.rb 9).trans (show _ = some (.int .i64 0) from rfl)
      have rf9 := blk_frozen H.out.rb 9
      have o10 := (blk_cell H.out.gb 10).trans (show _ = some (.int .i64 0) from rfl)
      have r10 := (blk_cell H.out.rb 10).trans (show _ = some (.int .i64 0) from rfl)
      have rf10 := blk_frozen H.out.rb 10
      go_wp2
      have q0 := blk_put H.out.rb 0 (.int .i64 (nearV x0 0 2)) (show _ = #[.int .i64 (nearV x0 0 2), .int .i64 0, .int .i64 0, .int .i64 0, .int .i64 0, .int .i64 0, .int .i64 0, .int .i64 0, .int .i64 0, .int .i64 0, .int .i64 0] from rfl)
      have q1 := blk_put q0 1 (.int .i64 (nearV x1 0 p)) (show _ = #[.int .i64 (nearV x0 0 2), .int .i64 (nearV x1 0 p), .int .i64 0, .int .i64 0, .int .i64 0, .int .i64 0, .int .i64 0, .int .i64 0, .int .i64 0, .int .i64 0, .int .i64 0] from rfl)
      have q2 := blk_put q1 2 (.int .i64 ((nearV x1 0 p + nearV x2 1 (p - 1)) % p)) (show _ = #[.int .i64 (nearV x0 0 2), .int .i64 (nearV x1 0 p), .int .i64 ((nearV x1 0 p + nearV x2 1 (p - 1)) % p), .int .i64 0, .int .i64 0, .int .i64 0, .int .i64 0, .int .i64 0, .int .i64 0, .int .i64 0, .int .i64 0] from rfl)
      have q3 := blk_put q2 3 (.int .i64 (nearV x3 1 4)) (show _ = #[.int .i64 (nearV x0 0 2), .int .i64 (nearV x1 0 p), .int .i64 ((nearV x1 0 p + nearV x2 1 (p - 1)) % p), .int .i64 (nearV x3 1 4), .int .i64 0, .int .i64 0, .int .i64 0, .int .i64 0, .int .i64 0, .int .i64 0, .int .i64 0] from rfl)
      have q4 := blk_put q3 4 (.int .i64 (nearV x4 1 30)) (show _ = #[.int .i64 (nearV x0 0 2), .int .i64 (nearV x1 0 p), .int .i64 ((nearV x1 0 p + nearV x2 1 (p - 1)) % p), .int .i64 (nearV x3 1 4), .int .i64 (nearV x4 1 30), .int .i64 0, .int .i64 0, .int .i64 0, .int .i64 0, .int .i64 0, .int .i64 0] from rfl)
      have q5 := blk_put q4 5 (.int .i64 0) (show _ = #[.int .i64 (nearV x0 0 2), .int .i64 (nearV x1 0 p), .int .i64 ((nearV x1 0 p + nearV x2 1 (p - 1)) % p), .int .i64 (nearV x3 1 4), .int .i64 (nearV x4 1 30), .int .i64 0, .int .i64 0, .int .i64 0, .int .i64 0, .int .i64 0, .int .i64 0] from rfl)
      have q6 := blk_put q5 6 (.int .i64 0) (show _ = #[.int .i64 (nearV x0 0 2), .int .i64 (nearV x1 0 p), .int .i64 ((nearV x1 0 p + nearV x2 1 (p - 1)) % p), .int .i64 (nearV x3 1 4), .int .i64 (nearV x4 1 30), .int .i64 0, .int .i64 0, .int .i64 0, .int .i64 0, .int .i64 0, .int .i64 0] from rfl)
      have q7 := blk_put q6 7 (.int .i64 0) (show _ = #[.int .i64 (nearV x0 0 2), .int .i64 (nearV x1 0 p), .int .i64 ((nearV x1 0 p + nearV x2 1 (p - 1)) % p), .int .i64 (nearV x3 1 4), .int .i64 (nearV x4 1 30), .int .i64 0, .int .i64 0, .int .i64 0, .int .i64 0, .int .i64 0, .int .i64 0] from rfl)
      have q8 := blk_put q7 8 (.int .i64 0) (show _ = #[.int .i64 (nearV x0 0 2), .int .i64 (nearV x1 0 p), .int .i64 ((nearV x1 0 p + nearV x2 1 (p - 1)) % p), .int .i64 (nearV x3 1 4), .int .i64 (nearV x4 1 30), .int .i64 0, .int .i64 0, .int .i64 0, .int .i64 0, .int .i64 0, .int .i64 0] from rfl)
      have q9 := blk_put q8 9 (.int .i64 0) (show _ = #[.int .i64 (nearV x0 0 2), .int .i64 (nearV x1 0 p), .int .i64 ((nearV x1 0 p + nearV x2 1 (p - 1)) % p), .int .i64 (nearV x3 1 4), .int .i64 (nearV x4 1 30), .int .i64 0, .int .i64 0, .int .i64 0, .int .i64 0, .int .i64 0, .int .i64 0] from rfl)
      have q10 := blk_put q9 10 (.int .i64 0) (show _ = #[.int .i64 (nearV x0 0 2), .int .i64 (nearV x1 0 p), .int .i64 ((nearV x1 0 p + nearV x2 1 (p - 1)) % p), .int .i64 (nearV x3 1 4), .int .i64 (nearV x4 1 30), .int .i64 0, .int .i64 0, .int .i64 0, .int .i64 0, .int .i64 0, .int .i64 0] from rfl)
      have z0 := below_set (j := 0) (v := .int .i64 (nearV x0 0 2)) H.out.bel (show w.heap.size ≤ w.heap.size + 1 by omega)
      have z1 := below_set (j := 1) (v := .int .i64 (nearV x1 0 p)) z0 (show w.heap.size ≤ w.heap.size + 1 by omega)
      have z2 := below_set (j := 2) (v := .int .i64 ((nearV x1 0 p + nearV x2 1 (p - 1)) % p)) z1 (show w.heap.size ≤ w.heap.size + 1 by omega)
      have z3 := below_set (j := 3) (v := .int .i64 (nearV x3 1 4)) z2 (show w.heap.size ≤ w.heap.size + 1 by omega)
      have z4 := below_set (j := 4) (v := .int .i64 (nearV x4 1 30)) z3 (show w.heap.size ≤ w.heap.size + 1 by omega)
      have z5 := below_set (j := 5) (v := .int .i64 0) z4 (show w.heap.size ≤ w.heap.size + 1 by omega)
      have z6 := below_set (j := 6) (v := .int .i64 0) z5 (show w.heap.size ≤ w.heap.size + 1 by omega)
      have z7 := below_set (j := 7) (v := .int .i64 0) z6 (show w.heap.size ≤ w.heap.size + 1 by omega)
      have z8 := below_set (j := 8) (v := .int .i64 0) z7 (show w.heap.size ≤ w.heap.size + 1 by omega)
      have z9 := below_set (j := 9) (v := .int .i64 0) z8 (show w.heap.size ≤ w.heap.size + 1 by omega)
      have z10 := below_set (j := 10) (v := .int .i64 0) z9 (show w.heap.size ≤ w.heap.size + 1 by omega)
      have HQ := Aside0.mk q10
      have HZ := Aside0.mk z10
      clear q0 z0 o0 r0 rf0 q1 z1 o1 r1 rf1 q2 z2 o2 r2 rf2 q3 z3 o3 r3 rf3 q4 z4 o4 r4 rf4 q5 z5 o5 r5 rf5 q6 z6 o6 r6 rf6 q7 z7 o7 r7 rf7 q8 z8 o8 r8 rf8 q9 z9 o9 r9 rf9 q10 z10 o10 r10 rf10
      refine bodyPost_ret (results_cell_row rfl _ _ (w.heap.size + 1) 57 #[.int .i64 (nearV x0 0 2), .int .i64 (nearV x1 0 p), .int .i64 ((nearV x1 0 p + nearV x2 1 (p - 1)) % p), .int .i64 (nearV x3 1 4), .int .i64 (nearV x4 1 30), .int .i64 0, .int .i64 0, .int .i64 0, .int .i64 0, .int .i64 0, .int .i64 0] (0, 0) _ rfl HQ.out T.out rfl (by kernel_rfl)) rfl ?_
      rw [HV.out]
      exact ⟨rfl, HZ.out⟩
    · have HV : Aside0 (chanV ⟨x0, x1, x2, x3, x4, x5, x6, x7, x8, x9, x10⟩ p = ⟨nearV x0 0 2, nearV x1 0 p, (nearV x1 0 p + nearV x2 1 (p - 1)) % p, nearV x3 1 4, 0, nearV x5 1 3, nearV x6 1 4, nearV x7 1 4, nearV x8 1 60, nearV x9 0 5, nearV x10 1 6⟩) := ⟨by unfold chanV; rw [if_neg hz]⟩
      have zb : (nearV x0 0 2 == 0) = false := beq_eq_false_iff_ne.mpr hz
      have zd : decide (nearV x0 0 2 = 0) = false := decide_eq_false hz
      clear hz
      go_upto_region 6 with (first | fail)
      clear zb zd o0
      have a5 := (blk_cell H.out.xb 5).trans (show _ = some (.int .i64 x5) from rfl)
      have o5 := (blk_cell H.out.gb 5).trans (show _ = some (.int .i64 0) from rfl)
      have of5 := blk_frozen H.out.gb 5
      go_upto_region 7 with (first | (go_at_call 28; refine (near_any _ _ _ (by omega) (by omega) _).mono ?_; rintro e w' ⟨rfl, rfl⟩))
      have H := H.out.put 5 (.int .i64 (nearV x5 1 3)) (show _ = #[.int .i64 (nearV x0 0 2), .int .i64 (nearV x1 0 p), .int .i64 ((nearV x1 0 p + nearV x2 1 (p - 1)) % p), .int .i64 (nearV x3 1 4), .int .i64 0, .int .i64 (nearV x5 1 3), .int .i64 0, .int .i64 0, .int .i64 0, .int .i64 0, .int .i64 0] from rfl)
      clear a5 o5 of5
      revert H
      generalize (W3.setCell ⟨ob, 5, none⟩ (.int .i64 (nearV x5 1 3))) = W5
      intro H
      replace H := Aside0.mk H
      have a6 := (blk_cell H.out.xb 6).trans (show _ = some (.int .i64 x6) from rfl)
      have o6 := (blk_cell H.out.gb 6).trans (show _ = some (.int .i64 0) from rfl)
      have of6 := blk_frozen H.out.gb 6
      go_upto_region 8 with (first | (go_at_call 28; refine (near_any _ _ _ (by omega) (by omega) _).mono ?_; rintro e w' ⟨rfl, rfl⟩))
      have H := H.out.put 6 (.int .i64 (nearV x6 1 4)) (show _ = #[.int .i64 (nearV x0 0 2), .int .i64 (nearV x1 0 p), .int .i64 ((nearV x1 0 p + nearV x2 1 (p - 1)) % p), .int .i64 (nearV x3 1 4), .int .i64 0, .int .i64 (nearV x5 1 3), .int .i64 (nearV x6 1 4), .int .i64 0, .int .i64 0, .int .i64 0, .int .i64 0] from rfl)
      clear a6 o6 of6
      revert H
      generalize (W5.setCell ⟨ob, 6, none⟩ (.int .i64 (nearV x6 1 4))) = W6
      intro H
      replace H := Aside0.mk H
      have a7 := (blk_cell H.out.xb 7).trans (show _ = some (.int .i64 x7) from rfl)
      have o7 := (blk_cell H.out.gb 7).trans (show _ = some (.int .i64 0) from rfl)
      have of7 := blk_frozen H.out.gb 7
      go_upto_region 9 with (first | (go_at_call 28; refine (near_any _ _ _ (by omega) (by omega) _).mono ?_; rintro e w' ⟨rfl, rfl⟩))
      have H := H.out.put 7 (.int .i64 (nearV x7 1 4)) (show _ = #[.int .i64 (nearV x0 0 2), .int .i64 (nearV x1 0 p), .int .i64 ((nearV x1 0 p + nearV x2 1 (p - 1)) % p), .int .i64 (nearV x3 1 4), .int .i64 0, .int .i64 (nearV x5 1 3), .int .i64 (nearV x6 1 4), .int .i64 (nearV x7 1 4), .int .i64 0, .int .i64 0, .int .i64 0] from rfl)
      clear a7 o7 of7
      revert H
      generalize (W6.setCell ⟨ob, 7, none⟩ (.int .i64 (nearV x7 1 4))) = W7
      intro H
      replace H := Aside0.mk H
      have a8 := (blk_cell H.out.xb 8).trans (show _ = some (.int .i64 x8) from rfl)
      have o8 := (blk_cell H.out.gb 8).trans (show _ = some (.int .i64 0) from rfl)
      have of8 := blk_frozen H.out.gb 8
      go_upto_region 10 with (first | (go_at_call 28; refine (near_any _ _ _ (by omega) (by omega) _).mono ?_; rintro e w' ⟨rfl, rfl⟩))
      have H := H.out.put 8 (.int .i64 (nearV x8 1 60)) (show _ = #[.int .i64 (nearV x0 0 2), .int .i64 (nearV x1 0 p), .int .i64 ((nearV x1 0 p + nearV x2 1 (p - 1)) % p), .int .i64 (nearV x3 1 4), .int .i64 0, .int .i64 (nearV x5 1 3), .int .i64 (nearV x6 1 4), .int .i64 (nearV x7 1 4), .int .i64 (nearV x8 1 60), .int .i64 0, .int .i64 0] from rfl)
      clear a8 o8 of8
      revert H
      generalize (W7.setCell ⟨ob, 8, none⟩ (.int .i64 (nearV x8 1 60))) = W8
      intro H
      replace H := Aside0.mk H
      have a9 := (blk_cell H.out.xb 9).trans (show _ = some (.int .i64 x9) from rfl)
      have o9 := (blk_cell H.out.gb 9).trans (show _ = some (.int .i64 0) from rfl)
      have of9 := blk_frozen H.out.gb 9
      go_upto_region 11 with (first | (go_at_call 28; refine (near_any _ _ _ (by omega) (by omega) _).mono ?_; rintro e w' ⟨rfl, rfl⟩))
      have H := H.out.put 9 (.int .i64 (nearV x9 0 5)) (show _ = #[.int .i64 (nearV x0 0 2), .int .i64 (nearV x1 0 p), .int .i64 ((nearV x1 0 p + nearV x2 1 (p - 1)) % p), .int .i64 (nearV x3 1 4), .int .i64 0, .int .i64 (nearV x5 1 3), .int .i64 (nearV x6 1 4), .int .i64 (nearV x7 1 4), .int .i64 (nearV x8 1 60), .int .i64 (nearV x9 0 5), .int .i64 0] from rfl)
      clear a9 o9 of9
      revert H
      generalize (W8.setCell ⟨ob, 9, none⟩ (.int .i64 (nearV x9 0 5))) = W9
      intro H
      replace H := Aside0.mk H
      have a10 := (blk_cell H.out.xb 10).trans (show _ = some (.int .i64 x10) from rfl)
      have o10 := (blk_cell H.out.gb 10).trans (show _ = some (.int .i64 0) from rfl)
      have of10 := blk_frozen H.out.gb 10
      go_upto_region 12 with (first | (go_at_call 28; refine (near_any _ _ _ (by omega) (by omega) _).mono ?_; rintro e w' ⟨rfl, rfl⟩))
      have H := H.out.put 10 (.int .i64 (nearV x10 1 6)) (show _ = #[.int .i64 (nearV x0 0 2), .int .i64 (nearV x1 0 p), .int .i64 ((nearV x1 0 p + nearV x2 1 (p - 1)) % p), .int .i64 (nearV x3 1 4), .int .i64 0, .int .i64 (nearV x5 1 3), .int .i64 (nearV x6 1 4), .int .i64 (nearV x7 1 4), .int .i64 (nearV x8 1 60), .int .i64 (nearV x9 0 5), .int .i64 (nearV x10 1 6)] from rfl)
      clear a10 o10 of10
      revert H
      generalize (W9.setCell ⟨ob, 10, none⟩ (.int .i64 (nearV x10 1 6))) = W10
      intro H
      replace H := Aside0.mk H
      have o0 := (blk_cell H.out.gb 0).trans (show _ = some (.int .i64 (nearV x0 0 2)) from rfl)
      have r0 := (blk_cell H.out.rb 0).trans (show _ = some (.int .i64 0) from rfl)
      have rf0 := blk_frozen H.out.rb 0
      have o1 := (blk_cell H.out.gb 1).trans (show _ = some (.int .i64 (nearV x1 0 p)) from rfl)
      have r1 := (blk_cell H.out.rb 1).trans (show _ = some (.int .i64 0) from rfl)
      have rf1 := blk_frozen H.out.rb 1
      have o2 := (blk_cell H.out.gb 2).trans (show _ = some (.int .i64 ((nearV x1 0 p + nearV x2 1 (p - 1)) % p)) from rfl)
      have r2 := (blk_cell H.out.rb 2).trans (show _ = some (.int .i64 0) from rfl)
      have rf2 := blk_frozen H.out.rb 2
      have o3 := (blk_cell H.out.gb 3).trans (show _ = some (.int .i64 (nearV x3 1 4)) from rfl)
      have r3 := (blk_cell H.out.rb 3).trans (show _ = some (.int .i64 0) from rfl)
      have rf3 := blk_frozen H.out.rb 3
      have o4 := (blk_cell H.out.gb 4).trans (show _ = some (.int .i64 0) from rfl)
      have r4 := (blk_cell H.out.rb 4).trans (show _ = some (.int .i64 0) from rfl)
      have rf4 := blk_frozen H.out.rb 4
      have o5 := (blk_cell H.out.gb 5).trans (show _ = some (.int .i64 (nearV x5 1 3)) from rfl)
      have r5 := (blk_cell H.out.rb 5).trans (show _ = some (.int .i64 0) from rfl)
      have rf5 := blk_frozen H.out.rb 5
      have o6 := (blk_cell H.out.gb 6).trans (show _ = some (.int .i64 (nearV x6 1 4)) from rfl)
      have r6 := (blk_cell H.out.rb 6).trans (show _ = some (.int .i64 0) from rfl)
      have rf6 := blk_frozen H.out.rb 6
      have o7 := (blk_cell H.out.gb 7).trans (show _ = some (.int .i64 (nearV x7 1 4)) from rfl)
      have r7 := (blk_cell H.out.rb 7).trans (show _ = some (.int .i64 0) from rfl)
      have rf7 := blk_frozen H.out.rb 7
      have o8 := (blk_cell H.out.gb 8).trans (show _ = some (.int .i64 (nearV x8 1 60)) from rfl)
      have r8 := (blk_cell H.out.rb 8).trans (show _ = some (.int .i64 0) from rfl)
      have rf8 := blk_frozen H.out.rb 8
      have o9 := (blk_cell H.out.gb 9).trans (show _ = some (.int .i64 (nearV x9 0 5)) from rfl)
      have r9 := (blk_cell H.out.rb 9).trans (show _ = some (.int .i64 0) from rfl)
      have rf9 := blk_frozen H.out.rb 9
      have o10 := (blk_cell H.out.gb 10).trans (show _ = some (.int .i64 (nearV x10 1 6)) from rfl)
      have r10 := (blk_cell H.out.rb 10).trans (show _ = some (.int .i64 0) from rfl)
      have rf10 := blk_frozen H.out.rb 10
      go_wp2
      have q0 := blk_put H.out.rb 0 (.int .i64 (nearV x0 0 2)) (show _ = #[.int .i64 (nearV x0 0 2), .int .i64 0, .int .i64 0, .int .i64 0, .int .i64 0, .int .i64 0, .int .i64 0, .int .i64 0, .int .i64 0, .int .i64 0, .int .i64 0] from rfl)
      have q1 := blk_put q0 1 (.int .i64 (nearV x1 0 p)) (show _ = #[.int .i64 (nearV x0 0 2), .int .i64 (nearV x1 0 p), .int .i64 0, .int .i64 0, .int .i64 0, .int .i64 0, .int .i64 0, .int .i64 0, .int .i64 0, .int .i64 0, .int .i64 0] from rfl)
      have q2 := blk_put q1 2 (.int .i64 ((nearV x1 0 p + nearV x2 1 (p - 1)) % p)) (show _ = #[.int .i64 (nearV x0 0 2), .int .i64 (nearV x1 0 p), .int .i64 ((nearV x1 0 p + nearV x2 1 (p - 1)) % p), .int .i64 0, .int .i64 0, .int .i64 0, .int .i64 0, .int .i64 0, .int .i64 0, .int .i64 0, .int .i64 0] from rfl)
      have q3 := blk_put q2 3 (.int .i64 (nearV x3 1 4)) (show _ = #[.int .i64 (nearV x0 0 2), .int .i64 (nearV x1 0 p), .int .i64 ((nearV x1 0 p + nearV x2 1 (p - 1)) % p), .int .i64 (nearV x3 1 4), .int .i64 0, .int .i64 0, .int .i64 0, .int .i64 0, .int .i64 0, .int .i64 0, .int .i64 0] from rfl)
      have q4 := blk_put q3 4 (.int .i64 0) (show _ = #[.int .i64 (nearV x0 0 2), .int .i64 (nearV x1 0 p), .int .i64 ((nearV x1 0 p + nearV x2 1 (p - 1)) % p), .int .i64 (nearV x3 1 4), .int .i64 0, .int .i64 0, .int .i64 0, .int .i64 0, .int .i64 0, .int .i64 0, .int .i64 0] from rfl)
      have q5 := blk_put q4 5 (.int .i64 (nearV x5 1 3)) (show _ = #[.int .i64 (nearV x0 0 2), .int .i64 (nearV x1 0 p), .int .i64 ((nearV x1 0 p + nearV x2 1 (p - 1)) % p), .int .i64 (nearV x3 1 4), .int .i64 0, .int .i64 (nearV x5 1 3), .int .i64 0, .int .i64 0, .int .i64 0, .int .i64 0, .int .i64 0] from rfl)
      have q6 := blk_put q5 6 (.int .i64 (nearV x6 1 4)) (show _ = #[.int .i64 (nearV x0 0 2), .int .i64 (nearV x1 0 p), .int .i64 ((nearV x1 0 p + nearV x2 1 (p - 1)) % p), .int .i64 (nearV x3 1 4), .int .i64 0, .int .i64 (nearV x5 1 3), .int .i64 (nearV x6 1 4), .int .i64 0, .int .i64 0, .int .i64 0, .int .i64 0] from rfl)
      have q7 := blk_put q6 7 (.int .i64 (nearV x7 1 4)) (show _ = #[.int .i64 (nearV x0 0 2), .int .i64 (nearV x1 0 p), .int .i64 ((nearV x1 0 p + nearV x2 1 (p - 1)) % p), .int .i64 (nearV x3 1 4), .int .i64 0, .int .i64 (nearV x5 1 3), .int .i64 (nearV x6 1 4), .int .i64 (nearV x7 1 4), .int .i64 0, .int .i64 0, .int .i64 0] from rfl)
      have q8 := blk_put q7 8 (.int .i64 (nearV x8 1 60)) (show _ = #[.int .i64 (nearV x0 0 2), .int .i64 (nearV x1 0 p), .int .i64 ((nearV x1 0 p + nearV x2 1 (p - 1)) % p), .int .i64 (nearV x3 1 4), .int .i64 0, .int .i64 (nearV x5 1 3), .int .i64 (nearV x6 1 4), .int .i64 (nearV x7 1 4), .int .i64 (nearV x8 1 60), .int .i64 0, .int .i64 0] from rfl)
      have q9 := blk_put q8 9 (.int .i64 (nearV x9 0 5)) (show _ = #[.int .i64 (nearV x0 0 2), .int .i64 (nearV x1 0 p), .int .i64 ((nearV x1 0 p + nearV x2 1 (p - 1)) % p), .int .i64 (nearV x3 1 4), .int .i64 0, .int .i64 (nearV x5 1 3), .int .i64 (nearV x6 1 4), .int .i64 (nearV x7 1 4), .int .i64 (nearV x8 1 60), .int .i64 (nearV x9 0 5), .int .i64 0] from rfl)
      have q10 := blk_put q9 10 (.int .i64 (nearV x10 1 6)) (show _ = #[.int .i64 (nearV x0 0 2), .int .i64 (nearV x1 0 p), .int .i64 ((nearV x1 0 p + nearV x2 1 (p - 1)) % p), .int .i64 (nearV x3 1 4), .int .i64 0, .int .i64 (nearV x5 1 3), .int .i64 (nearV x6 1 4), .int .i64 (nearV x7 1 4), .int .i64 (nearV x8 1 60), .int .i64 (nearV x9 0 5), .int .i64 (nearV x10 1 6)] from rfl)
      have z0 := below_set (j := 0) (v := .int .i64 (nearV x0 0 2)) H.out.bel (show w.heap.size ≤ w.heap.size + 1 by omega)
      have z1 := below_set (j := 1) (v := .int .i64 (nearV x1 0 p)) z0 (show w.heap.size ≤ w.heap.size + 1 by omega)
      have z2 := below_set (j := 2) (v := .int .i64 ((nearV x1 0 p + nearV x2 1 (p - 1)) % p)) z1 (show w.heap.size ≤ w.heap.size + 1 by omega)
      have z3 := below_set (j := 3) (v := .int .i64 (nearV x3 1 4)) z2 (show w.heap.size ≤ w.heap.size + 1 by omega)
      have z4 := below_set (j := 4) (v := .int .i64 0) z3 (show w.heap.size ≤ w.heap.size + 1 by omega)
      have z5 := below_set (j := 5) (v := .int .i64 (nearV x5 1 3)) z4 (show w.heap.size ≤ w.heap.size + 1 by omega)
      have z6 := below_set (j := 6) (v := .int .i64 (nearV x6 1 4)) z5 (show w.heap.size ≤ w.heap.size + 1 by omega)
      have z7 := below_set (j := 7) (v := .int .i64 (nearV x7 1 4)) z6 (show w.heap.size ≤ w.heap.size + 1 by omega)
      have z8 := below_set (j := 8) (v := .int .i64 (nearV x8 1 60)) z7 (show w.heap.size ≤ w.heap.size + 1 by omega)
      have z9 := below_set (j := 9) (v := .int .i64 (nearV x9 0 5)) z8 (show w.heap.size ≤ w.heap.size + 1 by omega)
      have z10 := below_set (j := 10) (v := .int .i64 (nearV x10 1 6)) z9 (show w.heap.size ≤ w.heap.size + 1 by omega)
      have HQ := Aside0.mk q10
      have HZ := Aside0.mk z10
      clear q0 z0 o0 r0 rf0 q1 z1 o1 r1 rf1 q2 z2 o2 r2 rf2 q3 z3 o3 r3 rf3 q4 z4 o4 r4 rf4 q5 z5 o5 r5 rf5 q6 z6 o6 r6 rf6 q7 z7 o7 r7 rf7 q8 z8 o8 r8 rf8 q9 z9 o9 r9 rf9 q10 z10 o10 r10 rf10
      refine bodyPost_ret (results_cell_row rfl _ _ (w.heap.size + 1) 57 #[.int .i64 (nearV x0 0 2), .int .i64 (nearV x1 0 p), .int .i64 ((nearV x1 0 p + nearV x2 1 (p - 1)) % p), .int .i64 (nearV x3 1 4), .int .i64 0, .int .i64 (nearV x5 1 3), .int .i64 (nearV x6 1 4), .int .i64 (nearV x7 1 4), .int .i64 (nearV x8 1 60), .int .i64 (nearV x9 0 5), .int .i64 (nearV x10 1 6)] (0, 0) _ rfl HQ.out T.out rfl (by kernel_rfl)) rfl ?_
      rw [HV.out]
      exact ⟨rfl, HZ.out⟩
end Go.Proofs.YtdebbanloopcgaaDoor.Cf
