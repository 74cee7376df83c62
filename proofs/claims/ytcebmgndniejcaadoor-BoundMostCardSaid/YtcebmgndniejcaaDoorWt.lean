/- Layer 13 (window): Nth. -/
import Derived.Test.YtcebmgndniejcaaDoorWu
import Derived.Deep.RegionHeld3
import Derived.Test.YtcebmgndniejcaaDoorInR
set_option linter.unusedVariables false
set_option linter.unusedSimpArgs false
namespace Go.Proofs.YtcebmgndniejcaaDoor.Wn
open Go Go.RowKit Go.Shelf Go.Proofs.YtcebmgndniejcaaDoorW.PrintWords Go.Proofs.YtcebmgndniejcaaDoorW.PrintLast Go.Proofs.YtcebmgndniejcaaDoorW.PrintMore Go.Proofs.YtcebmgndniejcaaDoor.Cz Go.Proofs.YtcebmgndniejcaaDoor.PBoundWaits Go.Proofs.YtcebmgndniejcaaDoor.Cf Go.Proofs.YtcebmgndniejcaaDoor.Sat
attribute [local go_sem] Tryd.underlying26 Tryd.underlying41
theorem heap3 (w : World) (o1 o2 o3 : Obj) : Below w.heap.size w (((w.alloc o1).alloc o2).alloc o3) ∧ (((w.alloc o1).alloc o2).alloc o3).heap.size = w.heap.size + 1 + 1 + 1 ∧
    (((w.alloc o1).alloc o2).alloc o3).heap[w.heap.size]? = some o1 ∧ (((w.alloc o1).alloc o2).alloc o3).heap[w.heap.size + 1]? = some o2 ∧ (((w.alloc o1).alloc o2).alloc o3).heap[w.heap.size + 1 + 1]? = some o3 := by
  refine ⟨below_alloc (below_alloc (below_alloc (Below.refl _ _) _) _) _, by simp only [World.size_alloc], blk_alloc (blk_alloc (blk_new w o1) o2) o3, ?_, ?_⟩
  · have := blk_alloc (blk_new (w.alloc o1) o2) o3
    simpa only [World.size_alloc] using this
  · have := blk_new ((w.alloc o1).alloc o2) o3
    simpa only [World.size_alloc] using this
/-- No panic. -/
def np (Q : Exit → Act → World → Prop) : Exit → Act → World → Prop
  | .panic _, _, _ => False
  | e, a, w => Q e a w
theorem np_of {Q : Exit → Act → World → Prop} {e : Exit} {a : Act} {w : World} (h : np Q e a w) : Q e a w := by
  cases e <;> first | exact h | exact h.elim
theorem np_in {Q : Exit → Act → World → Prop} {a : Act} {w : World} (h : Q .normal a w) : np Q .normal a w := h
theorem wp_np {P : Program} {c : Code} {Q : Exit → Act → World → Prop} {a : Act} {w : World} (h : c.wp P (np Q) a w) : c.wp P Q a w := fun b k cs => by
  obtain ⟨e, a', w', hq, hr⟩ := h b k cs
  exact ⟨e, a', w', np_of hq, hr⟩
theorem cell_b {W W' : World} {a : Addr} {v : Value} (hc : W.cell? a = some v) (hb : Below W.heap.size W W') : W'.cell? a = some v := (hb.cell (World.block_lt_of_cell? _ _ hc)).trans hc
/-- The tick of an owner's ahead of which so many are. -/
def nthN (C : Cfg) (o m : Int) : Int := if countN C o = 0 then -1 else match (phs C o)[(cut m % countN C o).toNat]? with
  | some p => tadd (tmul (cut m / countN C o) C.f) p
  | none => -1
theorem cnt_all {ph : Int} {l : List Int} (h : ∀ p ∈ l, p < ph) : cnt ph l = l.length := by
  unfold cnt
  rw [List.filter_eq_self.2 (fun p hp => by simpa using h p hp)]
theorem countN_len (C : Cfg) (o : Int) : countN C o = (phs C o).length := by
  unfold countN belowN
  rw [cnt_all (fun p hp => by have := phs_mem hp; have := ok_hd this.1; omega)]
attribute [local go_sem] Oper.semAt_some
set_option maxHeartbeats 8000000 in
set_option maxRecDepth 100000 in
theorem nth_any {C : Cfg} {A2 A3 A4 : Option Addr} {c2 c3 c4 : Nat} {w : World} (hX : CX w C A2 c2 A3 c3 A4 c4) (hg : LG w) (lk : C.ks.length ≤ 1000) (la : C.ac.length ≤ 1000) (lw : C.ws.length ≤ 1000) (o m : Int) :
    Calls Tryd.prog 28 #[.agg #[.int .i64 C.p, .int .i64 C.f, .slice A2 C.ws.length c2, .slice A3 C.ks.length c3, .slice A4 C.ac.length c4], .int .i64 o, .int .i64 m] w fun e w' => e = .returned (.int .i64 (nthN C o m)) ∧ Below w.heap.size w w' := by
  have H3 := heap3 w (.cells #[.int .i64 C.p, .int .i64 C.f, .slice A2 C.ws.length c2, .slice A3 C.ks.length c3, .slice A4 C.ac.length c4] 26) (.cells #[.int .i64 m] 3) (.cells #[.int .i64 0] 3)
  have hb3 := H3.1
  have HX := Aside0.mk hX
  have HG := Aside0.mk hg
  have HC := Aside0.mk (count_any (hX.below hb3) (hg.below hb3) lk la lw o)
  have HKB : Aside0 (0 ≤ countN C o ∧ countN C o ≤ 512 ∧ countN C o = (phs C o).length) := ⟨by have := phs_small C o; rw [countN_len]; omega⟩
  have HV : Aside0 (nthN C o m = if countN C o = 0 then -1 else match (phs C o)[(cut m % countN C o).toNat]? with | some p => tadd (tmul (cut m / countN C o) C.f) p | none => -1) := ⟨rfl⟩
  generalize nthN C o m = res at HV ⊢
  generalize countN C o = k at HC HKB HV
  have H3A := Aside0.mk H3
  clear hX hg hb3 H3
  have hmx : Tryd.prog.follows .mixedOrders = true := by kernel_rfl
  refine (callsIn_wide (n := 5)).1 ?_
  refine callsIn_of_wp_marks Tryd.func28 rfl trivial ?_ rfl
  simp only [Tryd.ntmps28, List.size_toArray, List.length_cons, List.length_nil, Nat.reduceAdd, Nat.reduceSub, Array.replicate_succ, Array.replicate_zero, List.push_toArray, List.append_toArray, List.nil_append, List.cons_append]
  by_cases hk : k = 0
  · have d1 : (k == 0) = true := beq_iff_eq.mpr hk
    have d2 : decide (k = 0) = true := decide_eq_true hk
    have HR : Aside0 (res = -1) := ⟨by rw [HV.out, if_pos hk]⟩
    clear hk
    gi_wp2_with (first | (gi_at_call 26; refine (callsIn_wide.2 HC.out).mono ?_; rintro e w2 ⟨rfl, hb⟩; have HB2 := Aside0.mk hb; have r0 := (blk_cell (blk_alloc (blk_below H3A.out.2.2.2.2 hb) (.cells #[.int .i64 k] 3)) 0).trans (show _ = some (.int .i64 0) from rfl); have rf := blk_frozen (blk_alloc (blk_below H3A.out.2.2.2.2 hb) (.cells #[.int .i64 k] 3)) 0; have m0 := (blk_cell (blk_alloc (blk_below H3A.out.2.2.2.1 hb) (.cells #[.int .i64 k] 3)) 0).trans (show _ = some (.int .i64 m) from rfl); clear hb) | (refine ⟨trivial, ?_⟩; gi_at_call 26; refine (callsIn_wide.2 HC.out).mono ?_; rintro e w2 ⟨rfl, hb⟩; have HB2 := Aside0.mk hb; have r0 := (blk_cell (blk_alloc (blk_below H3A.out.2.2.2.2 hb) (.cells #[.int .i64 k] 3)) 0).trans (show _ = some (.int .i64 0) from rfl); have rf := blk_frozen (blk_alloc (blk_below H3A.out.2.2.2.2 hb) (.cells #[.int .i64 k] 3)) 0; have m0 := (blk_cell (blk_alloc (blk_below H3A.out.2.2.2.1 hb) (.cells #[.int .i64 k] 3)) 0).trans (show _ = some (.int .i64 m) from rfl); clear hb))
    refine ⟨.int .i64 (-1), ?_, by rw [HR.out], below_set (below_alloc (below_step H3A.out.1 HB2.out) _) (by omega)⟩
    have hq := (blk_cell (blk_put (blk_alloc (blk_below H3A.out.2.2.2.2 HB2.out) (.cells #[.int .i64 k] 3)) 0 (.int .i64 (-1)) rfl) 0).trans (show _ = some (.int .i64 (-1)) from rfl)
    simp [results, Tryd.f28, go_sem, hq]
  · have d1 : (k == 0) = false := beq_eq_false_iff_ne.mpr hk
    have d2 : decide (k = 0) = false := decide_eq_false hk
    have k0 : 0 ≤ k := HKB.out.1
    have k1 : k ≤ 512 := HKB.out.2.1
    gi_wp2_with (first | (gi_at_call 26; refine (callsIn_wide.2 HC.out).mono ?_; rintro e w2 ⟨rfl, hb⟩; have HB2 := Aside0.mk hb; have r0 := (blk_cell (blk_alloc (blk_below H3A.out.2.2.2.2 hb) (.cells #[.int .i64 k] 3)) 0).trans (show _ = some (.int .i64 0) from rfl); have rf := blk_frozen (blk_alloc (blk_below H3A.out.2.2.2.2 hb) (.cells #[.int .i64 k] 3)) 0; have m0 := (blk_cell (blk_alloc (blk_below H3A.out.2.2.2.1 hb) (.cells #[.int .i64 k] 3)) 0).trans (show _ = some (.int .i64 m) from rfl); clear hb) | (refine ⟨trivial, ?_⟩; gi_at_call 26; refine (callsIn_wide.2 HC.out).mono ?_; rintro e w2 ⟨rfl, hb⟩; have HB2 := Aside0.mk hb; have r0 := (blk_cell (blk_alloc (blk_below H3A.out.2.2.2.2 hb) (.cells #[.int .i64 k] 3)) 0).trans (show _ = some (.int .i64 0) from rfl); have rf := blk_frozen (blk_alloc (blk_below H3A.out.2.2.2.2 hb) (.cells #[.int .i64 k] 3)) 0; have m0 := (blk_cell (blk_alloc (blk_below H3A.out.2.2.2.1 hb) (.cells #[.int .i64 k] 3)) 0).trans (show _ = some (.int .i64 m) from rfl); clear hb))
    have H4 : Below w.heap.size w (w2.alloc (.cells #[.int .i64 k] 3)) ∧ (w2.alloc (.cells #[.int .i64 k] 3)).heap[w.heap.size]? = some (.cells #[.int .i64 C.p, .int .i64 C.f, .slice A2 C.ws.length c2, .slice A3 C.ks.length c3, .slice A4 C.ac.length c4] 26 (0, 0)) ∧ (w2.alloc (.cells #[.int .i64 k] 3)).heap[w.heap.size + 1]? = some (.cells #[.int .i64 m] 3 (0, 0)) ∧ (w2.alloc (.cells #[.int .i64 k] 3)).heap[w.heap.size + 1 + 1]? = some (.cells #[.int .i64 0] 3 (0, 0)) ∧ (w2.alloc (.cells #[.int .i64 k] 3)).heap[w2.heap.size]? = some (.cells #[.int .i64 k] 3 (0, 0)) ∧ w.heap.size + 1 + 1 + 1 ≤ w2.heap.size :=
      ⟨below_alloc (below_step H3A.out.1 HB2.out) _, blk_alloc (blk_below H3A.out.2.2.1 HB2.out) _, blk_alloc (blk_below H3A.out.2.2.2.1 HB2.out) _, blk_alloc (blk_below H3A.out.2.2.2.2 HB2.out) _, blk_new _ _, by have := HB2.out.size; rw [H3A.out.2.1] at this; exact this⟩
    revert H4
    generalize (w2.alloc (.cells #[.int .i64 k] 3)) = W4
    generalize w2.heap.size = kb
    intro H4
    clear r0 rf m0 HB2 d2
    have m0 := (blk_cell H4.2.2.1 0).trans (show _ = some (.int .i64 m) from rfl)
    have kc := (blk_cell H4.2.2.2.2.1 0).trans (show _ = some (.int .i64 k) from rfl)
    have H4A := Aside0.mk H4
    clear H4
    have c0 := cut_bd m
    obtain ⟨c0a, c0b⟩ := c0
    have hkne : k ≠ 0 := hk
    have hd1 : 1 ≤ 5 - 1 := by decide
    have HKP : Aside0 (0 < k) := ⟨by omega⟩
    refine wpIn_wide.2 ?_
    refine wp_np ?_
    have T4 := Aside0.mk (fun (W : World) (hb : Below W4.heap.size W4 W) => And.intro (cell_b m0 hb) (cell_b kc hb))
    go_region_held3 (fun w' => w'.cell? ⟨w.heap.size + 1, 0, none⟩ = some (.int .i64 m) ∧ w'.cell? ⟨kb, 0, none⟩ = some (.int .i64 k)) (first | exact T4.out _ (below_drew (Below.refl _ _)) | exact T4.out _ (below_alloc (below_drew (Below.refl _ _)) _) | exact T4.out _ (below_drew (below_alloc (Below.refl _ _) _)) | go_keep) (first | (go_at_call 45; refine (cut_any _ _).mono ?_; rintro e w' ⟨rfl, rfl⟩))
    all_goals
    clear m0 kc T4
    refine np_in ?_
    have H5 : Below w.heap.size w (W4.alloc (.cells #[.int .i64 ((cut m).tmod k)] 3)).drew ∧ (W4.alloc (.cells #[.int .i64 ((cut m).tmod k)] 3)).drew.heap[w.heap.size]? = some (.cells #[.int .i64 C.p, .int .i64 C.f, .slice A2 C.ws.length c2, .slice A3 C.ks.length c3, .slice A4 C.ac.length c4] 26 (0, 0)) ∧ (W4.alloc (.cells #[.int .i64 ((cut m).tmod k)] 3)).drew.heap[w.heap.size + 1]? = some (.cells #[.int .i64 m] 3 (0, 0)) ∧ (W4.alloc (.cells #[.int .i64 ((cut m).tmod k)] 3)).drew.heap[w.heap.size + 1 + 1]? = some (.cells #[.int .i64 0] 3 (0, 0)) ∧ (W4.alloc (.cells #[.int .i64 ((cut m).tmod k)] 3)).drew.heap[kb]? = some (.cells #[.int .i64 k] 3 (0, 0)) ∧ (W4.alloc (.cells #[.int .i64 ((cut m).tmod k)] 3)).drew.heap[W4.heap.size]? = some (.cells #[.int .i64 ((cut m).tmod k)] 3 (0, 0)) ∧ (w.heap.size + 1 + 1 + 1 ≤ kb ∧ kb < W4.heap.size) ∧ (W4.alloc (.cells #[.int .i64 ((cut m).tmod k)] 3)).drew.heap.size = W4.heap.size + 1 :=
      ⟨below_drew (below_alloc H4A.out.1 _), blk_drew (blk_alloc H4A.out.2.1 _), blk_drew (blk_alloc H4A.out.2.2.1 _), blk_drew (blk_alloc H4A.out.2.2.2.1 _), blk_drew (blk_alloc H4A.out.2.2.2.2.1 _), blk_drew (blk_new W4 (.cells #[.int .i64 ((cut m).tmod k)] 3)), ⟨H4A.out.2.2.2.2.2, blk_lt H4A.out.2.2.2.2.1⟩, World.size_alloc ..⟩
    have hL : (0 ≤ (cut m).tmod k ∧ (cut m).tmod k < k) ∧ (cut m).tmod k = cut m % k := ⟨⟨Int.tmod_nonneg _ c0a, Int.tmod_lt_of_pos _ HKP.out⟩, Int.tmod_eq_emod_of_nonneg c0a⟩
    revert H5
    generalize (W4.alloc (.cells #[.int .i64 ((cut m).tmod k)] 3)).drew = W5
    generalize W4.heap.size = lb
    generalize (cut m).tmod k = L at hL ⊢
    intro H5
    have c5 := fun i => blk_cell H5.2.1 i
    have b0 := (c5 0).trans (show _ = some (.int .i64 C.p) from rfl)
    have b1 := (c5 1).trans (show _ = some (.int .i64 C.f) from rfl)
    have b2 := (c5 2).trans (show _ = some (.slice A2 C.ws.length c2) from rfl)
    have b3 := (c5 3).trans (show _ = some (.slice A3 C.ks.length c3) from rfl)
    have b4 := (c5 4).trans (show _ = some (.slice A4 C.ac.length c4) from rfl)
    have H5A := Aside0.mk H5
    have HLA := Aside0.mk hL
    clear c5 H5 hL H4A
    gi_wp2_with (first | (gi_at_call 46; refine (callsIn_wide.2 (phases_any _ _)).mono ?_; rintro e w' ⟨rfl, rfl⟩) | (refine ⟨trivial, ?_⟩; gi_at_call 46; refine (callsIn_wide.2 (phases_any _ _)).mono ?_; rintro e w' ⟨rfl, rfl⟩))
    have H6 : Below w.heap.size w ((W5.alloc (.cells #[.int .i64 C.p, .int .i64 C.f, .slice A2 C.ws.length c2, .slice A3 C.ks.length c3, .slice A4 C.ac.length c4] 26)).alloc (.cells #[.int .i64 o] 3)) ∧ ((W5.alloc (.cells #[.int .i64 C.p, .int .i64 C.f, .slice A2 C.ws.length c2, .slice A3 C.ks.length c3, .slice A4 C.ac.length c4] 26)).alloc (.cells #[.int .i64 o] 3)).heap[w.heap.size]? = some (.cells #[.int .i64 C.p, .int .i64 C.f, .slice A2 C.ws.length c2, .slice A3 C.ks.length c3, .slice A4 C.ac.length c4] 26 (0, 0)) ∧ ((W5.alloc (.cells #[.int .i64 C.p, .int .i64 C.f, .slice A2 C.ws.length c2, .slice A3 C.ks.length c3, .slice A4 C.ac.length c4] 26)).alloc (.cells #[.int .i64 o] 3)).heap[w.heap.size + 1]? = some (.cells #[.int .i64 m] 3 (0, 0)) ∧ ((W5.alloc (.cells #[.int .i64 C.p, .int .i64 C.f, .slice A2 C.ws.length c2, .slice A3 C.ks.length c3, .slice A4 C.ac.length c4] 26)).alloc (.cells #[.int .i64 o] 3)).heap[w.heap.size + 1 + 1]? = some (.cells #[.int .i64 0] 3 (0, 0)) ∧ ((W5.alloc (.cells #[.int .i64 C.p, .int .i64 C.f, .slice A2 C.ws.length c2, .slice A3 C.ks.length c3, .slice A4 C.ac.length c4] 26)).alloc (.cells #[.int .i64 o] 3)).heap[kb]? = some (.cells #[.int .i64 k] 3 (0, 0)) ∧ ((W5.alloc (.cells #[.int .i64 C.p, .int .i64 C.f, .slice A2 C.ws.length c2, .slice A3 C.ks.length c3, .slice A4 C.ac.length c4] 26)).alloc (.cells #[.int .i64 o] 3)).heap[lb]? = some (.cells #[.int .i64 L] 3 (0, 0)) ∧ ((W5.alloc (.cells #[.int .i64 C.p, .int .i64 C.f, .slice A2 C.ws.length c2, .slice A3 C.ks.length c3, .slice A4 C.ac.length c4] 26)).alloc (.cells #[.int .i64 o] 3)).heap[W5.heap.size]? = some (.cells #[.int .i64 C.p, .int .i64 C.f, .slice A2 C.ws.length c2, .slice A3 C.ks.length c3, .slice A4 C.ac.length c4] 26 (0, 0)) ∧ ((W5.alloc (.cells #[.int .i64 C.p, .int .i64 C.f, .slice A2 C.ws.length c2, .slice A3 C.ks.length c3, .slice A4 C.ac.length c4] 26)).alloc (.cells #[.int .i64 o] 3)).heap[W5.heap.size + 1]? = some (.cells #[.int .i64 o] 3 (0, 0)) ∧ ((W5.alloc (.cells #[.int .i64 C.p, .int .i64 C.f, .slice A2 C.ws.length c2, .slice A3 C.ks.length c3, .slice A4 C.ac.length c4] 26)).alloc (.cells #[.int .i64 o] 3)).heap.size = W5.heap.size + 1 + 1 :=
      ⟨below_alloc (below_alloc H5A.out.1 _) _, blk_alloc (blk_alloc H5A.out.2.1 _) _, blk_alloc (blk_alloc H5A.out.2.2.1 _) _, blk_alloc (blk_alloc H5A.out.2.2.2.1 _) _, blk_alloc (blk_alloc H5A.out.2.2.2.2.1 _) _, blk_alloc (blk_alloc H5A.out.2.2.2.2.2.1 _) _, blk_alloc (blk_new W5 _) _, by have := blk_new (W5.alloc (.cells #[.int .i64 C.p, .int .i64 C.f, .slice A2 C.ws.length c2, .slice A3 C.ks.length c3, .slice A4 C.ac.length c4] 26)) (.cells #[.int .i64 o] 3); rw [World.size_alloc] at this; exact this, by rw [World.size_alloc, World.size_alloc]⟩
    have hord : (w.heap.size + 1 + 1 + 1 ≤ kb ∧ kb < lb) ∧ W5.heap.size = lb + 1 := ⟨H5A.out.2.2.2.2.2.2.1, H5A.out.2.2.2.2.2.2.2⟩
    revert H6
    generalize ((W5.alloc (.cells #[.int .i64 C.p, .int .i64 C.f, .slice A2 C.ws.length c2, .slice A3 C.ks.length c3, .slice A4 C.ac.length c4] 26)).alloc (.cells #[.int .i64 o] 3)) = W6
    generalize W5.heap.size = pb at hord ⊢
    intro H6
    clear H5A b0 b1 b2 b3 b4
    obtain ⟨hb6, hc6, hn6, hr6, hk6, hl6, hp6, ho6, hs6⟩ := H6
    obtain ⟨⟨or1, or2⟩, rfl⟩ := hord
    refine wpIn_rangeFunc_ownF rfl (by decide) (gf := 58) (lb := #[.pointer (some ⟨lb + 1, 0, none⟩), .pointer (some ⟨lb + 1 + 1, 0, none⟩)]) rfl trivial (enters_of Tryd.func58 (by kernel_rfl) rfl)
      (phases_stops (w0 := W6) HX.out HG.out lk la lw o (fun q => q = w.heap.size + 1 + 1 ∨ q = lb) (5 - 1) (lb + 1) (lb + 1 + 1) (by decide) (by omega) (by omega) ⟨hb6, hp6, ho6⟩ (fun q hq => by omega)) Kp.tr (Kp.ob (by omega)) (Below.refl _ _) (fun _ => rfl)
      (fun (pre : List (PhT C o)) W => ((W.heap[w.heap.size]? = some (.cells #[.int .i64 C.p, .int .i64 C.f, .slice A2 C.ws.length c2, .slice A3 C.ks.length c3, .slice A4 C.ac.length c4] 26 (0, 0)) ∧ W.heap[w.heap.size + 1]? = some (.cells #[.int .i64 m] 3 (0, 0)) ∧ W.heap[w.heap.size + 1 + 1]? = some (.cells #[.int .i64 0] 3 (0, 0)) ∧ W.heap[kb]? = some (.cells #[.int .i64 k] 3 (0, 0)) ∧ W.heap[lb]? = some (.cells #[.int .i64 (L - pre.length)] 3 (0, 0))) ∧ (pre.length : Int) ≤ L) ∧ Below w.heap.size w W)
      (fun c (pre : List (PhT C o)) W => (c = .ret ∧ (∃ q x, vals pre = q ++ [x] ∧ (q.length : Int) = L ∧ W.heap[w.heap.size + 1 + 1]? = some (.cells #[.int .i64 (tadd (tmul (cut m / k) C.f) x)] 3 (0, 0)))) ∧ Below w.heap.size w W)
      (OwnFrom.and (fun s A B row hs hg hr => ⟨⟨own_blk hs.1.1 hg hr, own_blk hs.1.2.1 hg hr, own_blk hs.1.2.2.1 hg hr, own_blk hs.1.2.2.2.1 hg hr, own_blk hs.1.2.2.2.2 hg hr⟩, hs.2⟩) (ownFrom_below (Nat.le_refl _) (by omega)))
      (fun c => OwnFrom.and (fun s A B row hs hg hr => ⟨hs.1, by obtain ⟨q, x, h1, h2, h3⟩ := hs.2; exact ⟨q, x, h1, h2, own_blk h3 hg hr⟩⟩) (ownFrom_below (Nat.le_refl _) (by omega)))
      ⟨⟨⟨hc6, hn6, hr6, hk6, by simpa using hl6⟩, by have := HLA.out; simp; omega⟩, hb6⟩
      (fun x => { tmps := #[.agg #[.int .i64 C.p, .int .i64 C.f, .slice A2 C.ws.length c2, .slice A3 C.ks.length c3, .slice A4 C.ac.length c4], .int .i64 o, .int .i64 m, .pointer (some ⟨w.heap.size, 0, none⟩), undef, .pointer (some ⟨w.heap.size + 1, 0, none⟩), .pointer (some ⟨w.heap.size + 1 + 1, 0, none⟩), .pointer (some ⟨kb, 0, none⟩), .pointer (some ⟨lb, 0, none⟩), .int .i64 x.1, .agg #[.int .i64 C.p, .int .i64 C.f, .slice A2 C.ws.length c2, .slice A3 C.ks.length c3, .slice A4 C.ac.length c4], .int .i64 o, .int .i64 k, .int .i64 k, .bool false, .int .i64 m, .int .i64 (cut m), .int .i64 k, .int .i64 L, .agg #[.int .i64 C.p, .int .i64 C.f, .slice A2 C.ws.length c2, .slice A3 C.ks.length c3, .slice A4 C.ac.length c4], .int .i64 o, .func (.func 58) #[] #[.pointer (some ⟨lb + 1, 0, none⟩), .pointer (some ⟨lb + 1 + 1, 0, none⟩)], .int .i64 x.1, undef, undef, undef, undef, undef, undef, undef, undef, undef, undef, undef, undef, undef], defers := [] }) ?assign ?body ?done ?stop
    case assign =>
      intro l x W K hK
      gi_wp2
      exact hK
    case body =>
      rintro l pre ⟨x, hx0⟩ W ⟨⟨⟨hc, hn, hr, hkk, hl⟩, hpl⟩, hB⟩ hlen
      clear hb6 hc6 hn6 hr6 hk6 hl6 hp6 ho6 hs6 hlen
      have c1 := (blk_cell hc 1).trans (show _ = some (.int .i64 C.f) from rfl)
      have n0 := (blk_cell hn 0).trans (show _ = some (.int .i64 m) from rfl)
      have r0 := (blk_cell hr 0).trans (show _ = some (.int .i64 0) from rfl)
      have rf := blk_frozen hr 0
      have k0' := (blk_cell hkk 0).trans (show _ = some (.int .i64 k) from rfl)
      have l0 := (blk_cell hl 0).trans (show _ = some (.int .i64 (L - pre.length)) from rfl)
      have lf := blk_frozen hl 0
      have HC2 := Aside0.mk hc
      have HN := Aside0.mk hn
      have HR := Aside0.mk hr
      have HKK := Aside0.mk hkk
      have HLL := Aside0.mk hl
      have HPL := Aside0.mk hpl
      have HB := Aside0.mk hB
      have HSN := Aside0.mk (vals_snoc pre (⟨x, hx0⟩ : PhT C o))
      have HLN := Aside0.mk (vals_len pre)
      have HPN : Aside0 (((pre ++ [(⟨x, hx0⟩ : PhT C o)]).length : Int) = pre.length + 1) := ⟨by simp⟩
      clear hc hn hr hkk hl hpl hB
      obtain ⟨lv, hlv⟩ : ∃ lv, L - (pre.length : Int) = lv := ⟨_, rfl⟩
      have HLV := Aside0.mk hlv
      rw [hlv] at l0
      clear hlv
      have lv0 : 0 ≤ lv := by have := HLV.out; have := HPL.out; omega
      have lv1 : lv ≤ 600 := by have := HLV.out; have := HLA.out; omega
      by_cases hz : lv = 0
      · have z1 : (lv == 0) = true := beq_iff_eq.mpr hz
        have z2 : decide (lv = 0) = true := decide_eq_true hz
        have HZ := Aside0.mk hz
        clear hz
        gi_wp2
        have n1 := (blk_cell (blk_drew HN.out) 0).trans (show _ = some (.int .i64 m) from rfl)
        have k1' := (blk_cell (blk_drew HKK.out) 0).trans (show _ = some (.int .i64 k) from rfl)
        have c2' := (blk_cell (blk_drew HC2.out) 1).trans (show _ = some (.int .i64 C.f) from rfl)
        have r2 := (blk_cell (blk_drew HR.out) 0).trans (show _ = some (.int .i64 0) from rfl)
        have rf2 := blk_frozen (blk_drew HR.out) 0
        have hkp := HKP.out
        have hkne : k ≠ 0 := by omega
        have hc0 := cut_bd m
        obtain ⟨hc0a, hc0b⟩ := hc0
        clear n0 r0 rf k0' l0 lf c1
        refine OrdU.startR_ (k := 10) (S := fun w' => w' = W.drew) (ds := [9]) #[false, false, false, false, false, false, false, false, false, false] (by kernel_rfl) (by kernel_rfl) (fun h => by obtain ⟨_, _, h⟩ := h; exact h) rfl rfl rfl (fun hHeld => ?_)
        clear hHeld
        have hHeld : W.drew = W.drew := rfl
        refine take_ (i := 0) (N := some 25) (v := ?_) (a' := ?_) #[true, false, false, false, false, false, false, false, false, false] rfl rfl (by kernel_rfl) (fun _ _ _ h => h) (Or.inl ⟨by rfl, ?_⟩) hHeld ?_ ?_
        rotate_left
        · intro w' hSw
          subst hSw
          go_simp
          with_reducible rfl
        rotate_left
        · simp only [Act.put, List.setIfInBounds_toArray, List.set_cons_zero, List.set_cons_succ, i64_w, i32_w]
          rfl
        refine take_ (i := 2) (N := some 27) (v := ?_) (a' := ?_) #[true, false, true, false, false, false, false, false, false, false] rfl rfl (by kernel_rfl) (fun _ _ _ h => h) (Or.inl ⟨by rfl, ?_⟩) hHeld ?_ ?_
        rotate_left
        · intro w' hSw
          subst hSw
          go_simp
          with_reducible rfl
        rotate_left
        · simp only [Act.put, List.setIfInBounds_toArray, List.set_cons_zero, List.set_cons_succ, i64_w, i32_w]
          rfl
        refine pure_ (i := 4) (N := some 29) (v := ?_) (a' := ?_) #[true, false, true, false, true, false, false, false, false, false] rfl rfl (by kernel_rfl) (fun _ _ _ h => h) (Or.inl ⟨by rfl, ?_⟩) ?_ ?_
        rotate_left
        · intro w'
          go_simp
          with_reducible rfl
        rotate_left
        · simp only [Act.put, List.setIfInBounds_toArray, List.set_cons_zero, List.set_cons_succ, i64_w, i32_w]
          rfl
        refine take_ (i := 5) (N := some 30) (v := ?_) (a' := ?_) #[true, false, true, false, true, true, false, false, false, false] rfl rfl (by kernel_rfl) (fun _ _ _ h => h) (Or.inl ⟨by rfl, ?_⟩) hHeld ?_ ?_
        rotate_left
        · intro w' hSw
          subst hSw
          go_simp
          with_reducible rfl
        rotate_left
        · simp only [Act.put, List.setIfInBounds_toArray, List.set_cons_zero, List.set_cons_succ, i64_w, i32_w]
          rfl
        refine pure_ (i := 7) (N := some 32) (v := ?_) (a' := ?_) #[true, false, true, false, true, true, false, true, false, false] rfl rfl (by kernel_rfl) (fun _ _ _ h => h) (Or.inl ⟨by rfl, ?_⟩) ?_ ?_
        rotate_left
        · intro w'
          go_simp
          with_reducible rfl
        rotate_left
        · simp only [Act.put, List.setIfInBounds_toArray, List.set_cons_zero, List.set_cons_succ, i64_w, i32_w]
          rfl
        clear hHeld
        refine one_ (i := 1) (N := some 26) #[true, true, true, false, true, true, false, true, false, false] rfl rfl (by kernel_rfl) (by decide) (fun K hK => ?_)
        refine goes_ Tryd.func45 (by kernel_rfl) rfl #[.int .i64 m] (by rfl) rfl rfl (by (try simp only [List.map_toArray, List.map_cons, List.map_nil]); first | done | rfl | (simp only [List.length_drop, List.length_take]; rfl)) ?_
        (with_reducible refine (cut_any _ _).mono ?_)
        rintro e w5 ⟨rfl, rfl⟩
        refine ⟨_, rfl, ?_⟩
        refine hK.out _ _ rfl (fun hHeld => ?_)
        clear hK K
        refine norm_ (a' := ?_) ?_ ?_
        rotate_left
        · show Act.put _ (some 26) _ = _
          simp only [Act.put, List.setIfInBounds_toArray, List.set_cons_zero, List.set_cons_succ, i64_w, i32_w]
          rfl
        refine pure_ (i := 3) (N := some 28) (v := ?_) (a' := ?_) #[true, true, true, true, true, true, false, true, false, false] rfl rfl (by kernel_rfl) (fun _ _ _ h => h) (Or.inl ⟨by rfl, ?_⟩) ?_ ?_
        rotate_left
        · intro w'
          go_simp
          with_reducible rfl
        rotate_left
        · simp only [Act.put, List.setIfInBounds_toArray, List.set_cons_zero, List.set_cons_succ, i64_w, i32_w]
          rfl
        have hdv : wrap64 ((cut m).tdiv k) = cut m / k := by
          rw [Int.tdiv_eq_ediv_of_nonneg hc0a]
          have := Int.ediv_le_self k hc0a
          have := Int.ediv_nonneg hc0a (Int.le_of_lt hkp)
          exact w64_in (by omega) (by omega)
        rw [hdv]
        clear hdv
        clear hHeld
        refine one_ (i := 6) (N := some 31) #[true, true, true, true, true, true, true, true, false, false] rfl rfl (by kernel_rfl) (by decide) (fun K hK => ?_)
        refine goes_ Tryd.func42 (by kernel_rfl) rfl #[.int .i64 (cut m / k), .int .i64 C.f] (by rfl) rfl rfl (by (try simp only [List.map_toArray, List.map_cons, List.map_nil]); first | done | rfl | (simp only [List.length_drop, List.length_take]; rfl)) ?_
        (with_reducible refine (mul_any _ _ _).mono ?_)
        rintro e w5 ⟨rfl, rfl⟩
        refine ⟨_, rfl, ?_⟩
        refine hK.out _ _ rfl (fun hHeld => ?_)
        clear hK K
        refine norm_ (a' := ?_) ?_ ?_
        rotate_left
        · show Act.put _ (some 31) _ = _
          simp only [Act.put, List.setIfInBounds_toArray, List.set_cons_zero, List.set_cons_succ, i64_w, i32_w]
          rfl
        clear hHeld
        refine one_ (i := 8) (N := some 33) #[true, true, true, true, true, true, true, true, true, false] rfl rfl (by kernel_rfl) (by decide) (fun K hK => ?_)
        refine goes_ Tryd.func29 (by kernel_rfl) rfl #[.int .i64 (tmul (cut m / k) C.f), .int .i64 x] (by rfl) rfl rfl (by (try simp only [List.map_toArray, List.map_cons, List.map_nil]); first | done | rfl | (simp only [List.length_drop, List.length_take]; rfl)) ?_
        (with_reducible refine (add_any _ _ _).mono ?_)
        rintro e w5 ⟨rfl, rfl⟩
        refine ⟨_, rfl, ?_⟩
        refine hK.out _ _ rfl (fun hHeld => ?_)
        clear hK K
        refine norm_ (a' := ?_) ?_ ?_
        rotate_left
        · show Act.put _ (some 33) _ = _
          simp only [Act.put, List.setIfInBounds_toArray, List.set_cons_zero, List.set_cons_succ, i64_w, i32_w]
          rfl
        refine last_ (i := 9) (N := none) #[true, true, true, true, true, true, true, true, true, true] rfl rfl (by kernel_rfl) (by decide) (fun K hK => ?_)
        refine skip_ (w1 := ?_) (by rfl) rfl ?_ ?_
        rotate_left
        · go_simp
          rfl
        refine hK.out _ _ ?_
        clear hK K
        refine done_ (by kernel_rfl) ?_
        gi_wp2
        refine ⟨(KeepsOthers.setCell W ⟨w.heap.size + 1 + 1, 0, none⟩ (.int .i64 (tadd (tmul (cut m / k) C.f) x))).trans ⟨Nat.le_refl _, fun _ _ h _ => h⟩, ⟨rfl, vals pre, x, HSN.out, by rw [HLN.out]; have := HLV.out; have := HZ.out; omega, blk_drew (blk_put HR.out 0 _ (by simp))⟩, below_drew (below_set HB.out (by omega))⟩
      · have z1 : (lv == 0) = false := beq_eq_false_iff_ne.mpr hz
        have z2 : decide (lv = 0) = false := decide_eq_false hz
        have HZ := Aside0.mk hz
        clear hz
        gi_wp2
        refine ⟨KeepsOthers.setCell _ _ _, ⟨(Below.refl w.heap.size W).setCell (p := ⟨lb, 0, none⟩) (by show w.heap.size ≤ lb; omega) _, KB.put (S := (fun q => q = w.heap.size + 1 + 1 ∨ q = lb)) (g := lb) W (.inr rfl) 0 _⟩, ⟨⟨blk_far (p := ⟨lb, 0, none⟩) HC2.out (by show w.heap.size ≠ lb; omega) _, blk_far (p := ⟨lb, 0, none⟩) HN.out (by show w.heap.size + 1 ≠ lb; omega) _, blk_far (p := ⟨lb, 0, none⟩) HR.out (by show w.heap.size + 1 + 1 ≠ lb; omega) _, blk_far (p := ⟨lb, 0, none⟩) HKK.out (by show kb ≠ lb; omega) _, ?_⟩, ?_⟩, below_set HB.out (by omega)⟩
        · rw [HPN.out, show L - ((pre.length : Int) + 1) = lv - 1 by have := HLV.out; omega]
          exact blk_put HLL.out 0 _ (by simp)
        · rw [HPN.out]
          have := HLV.out
          have := HZ.out
          omega
    case done =>
      rintro D ys W hD hys ⟨⟨_, hpl⟩, hB⟩ hK
      have h1 := vals_len ys
      rw [show vals ys = phs C o from hys] at h1
      have h2 := HKB.out
      have h3 := HLA.out
      omega
    case stop =>
      rintro D c pre W hD hpre ⟨⟨rfl, q, x, hv, hq, hr⟩, hB⟩ hK
      have hpre' : vals pre <+: phs C o := hpre
      rw [hv] at hpre'
      have hdw : w.heap.size ≤ D := by omega
      have HVV : Aside0 (res = tadd (tmul (cut m / k) C.f) x) := ⟨by
        obtain ⟨r, hr'⟩ := hpre'
        rw [HV.out, if_neg (by have := HKP.out; omega), ← HLA.out.2, ← hr']
        have hqn : L.toNat = q.length := by omega
        rw [hqn]
        simp⟩
      have HB := Aside0.mk hB
      have hc0 := (blk_cell hr 0).trans (show _ = some (.int .i64 (tadd (tmul (cut m / k) C.f) x)) from rfl)
      clear hb6 hc6 hn6 hr6 hk6 hl6 hp6 ho6 hs6 hv hq hr hpre hpre' hB hD
      gi_wp2
      refine ⟨by simp, .inl ⟨_, _, rfl, run_takeDeferred hK, ?_⟩⟩
      have hc5 := cell_kept hc0 (grownBy_putObj' _ D (.deferred none)) (fun r e => by cases e; exact ⟨_, hK, rfl⟩)
      refine ⟨.int .i64 (tadd (tmul (cut m / k) C.f) x), ?_, by rw [HVV.out], HB.out.trans (belowK_b (w := w) (Nat.le_refl _) W D _ _ hdw hK rfl rfl)⟩
      simp [results, Tryd.f28, go_sem, hc5]
end Go.Proofs.YtcebmgndniejcaaDoor.Wn
