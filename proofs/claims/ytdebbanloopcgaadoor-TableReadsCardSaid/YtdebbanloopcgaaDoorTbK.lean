/- CfO, CfG, laid into one text by wip/tmerge.py. -/
import Derived.Test.YtdebbanloopcgaaDoorFew
/- Layer 4 (config): rows of the call's own; slices.Clone at windows, channels and numbers. -/
set_option linter.unusedVariables false
set_option linter.unusedSimpArgs false
namespace Go.Proofs.YtdebbanloopcgaaDoor.Cf
open Go.RowKit Go.Proofs.YtdebbanloopcgaaDoorW.PrintWords Go.Proofs.YtdebbanloopcgaaDoorW.PrintLast Go.Proofs.YtdebbanloopcgaaDoorW.PrintMore Go.Proofs.YtdebbanloopcgaaDoor.Cz Go.Proofs.YtdebbanloopcgaaDoor.PTableWrites
attribute [local go_sem] max2_int min2_int max_two min_two max_three min_three max_four min_four
/-- A row of the call's own. -/
structure OK {α : Type} (d : Kd α) (e : TypeId) (w0 W : World) (v : Value) (xs : List α) : Prop where
  r : d.R e W w0.heap.size (fun k => w0.heap.size ≤ k) v xs
  bel : Below w0.heap.size w0 W
section
variable {α : Type} {d : Kd α} {e : TypeId} {w0 w1 W W' : World} {v : Value} {xs : List α}
theorem OK.reads (h : OK d e w0 W v xs) : ∃ A c, v = .slice A xs.length c ∧ Kd.C d W A xs.length xs ∧ xs.length ≤ c := by
  obtain ⟨A, c, e, hl, hc⟩ := Kd.R_reads h.r
  exact ⟨A, c, e, hc, hl⟩
theorem OK.far (h : OK d e w0 W v xs) (hb : Below W.heap.size W W') : OK d e w0 W' v xs := ⟨Kd.R_below h.r hb, below_step h.bel hb⟩
theorem OK.less (h : OK d e w1 W v xs) (hb : Below w0.heap.size w0 w1) : OK d e w0 W v xs :=
  ⟨Kd.R_mono (Kd.R_lower h.r hb.size) (fun k hk => Nat.le_trans hb.size hk), below_step hb h.bel⟩
theorem OK.ci {A : Option Addr} {n c : Nat} (h : OK d e w0 W (.slice A n c) xs) : Kd.C d W A xs.length xs ∧ n = xs.length ∧ xs.length ≤ c := by
  obtain ⟨A', c', e, hc, hl⟩ := h.reads
  injection e with e1 e2 e3
  subst e1 e3
  exact ⟨hc, e2, hl⟩
end
theorem eqnil46 (w : World) (a : Option Addr) (n c : Nat) : (binOp .eql 22 (.slice a n c) (.slice none 0 0)).run Tryd.prog w = .ok (.bool a.isNone) w := Lib.run_eql_slice_nil w _ _ a n c 0 0 Tryd.underlying22
theorem eqnil57 (w : World) (a : Option Addr) (n c : Nat) : (binOp .eql 23 (.slice a n c) (.slice none 0 0)).run Tryd.prog w = .ok (.bool a.isNone) w := Lib.run_eql_slice_nil w _ _ a n c 0 0 Tryd.underlying23
theorem eqnil3 (w : World) (a : Option Addr) (n c : Nat) : (binOp .eql 24 (.slice a n c) (.slice none 0 0)).run Tryd.prog w = .ok (.bool a.isNone) w := Lib.run_eql_slice_nil w _ _ a n c 0 0 Tryd.underlying24
attribute [local go_sem] eqnil46 eqnil57 eqnil3 Option.isNone_some Option.isNone_none
theorem hkm46 {w W : World} {base : Nat} {ok : Nat → Prop} {x : S46} {cs : List Value} (h : k46.K w x cs) : k46.M W base ok x cs := by
  rw [k46_open h]
  exact k46_mkM _ _ _ x
theorem hkm57 {w W : World} {base : Nat} {ok : Nat → Prop} {x : S57} {cs : List Value} (h : k57.K w x cs) : k57.M W base ok x cs := by
  rw [k57_open h]
  exact k57_mkM _ _ _ x
theorem none_len {α : Type} {d : Kd α} {w : World} {xs : List α} (h : Kd.C d w none xs.length xs) : xs = [] := by
  rcases xs with _ | ⟨x, t⟩
  · rfl
  · obtain ⟨_, _, h3⟩ := h
    obtain ⟨ad, e, _⟩ := h3 (by simp)
    cases e

set_option maxHeartbeats 4000000 in
set_option maxRecDepth 100000 in
theorem clone46_any {A : Option Addr} {c : Nat} {xs : List S46} {w : World} (h : Kd.C k46 w A xs.length xs) (hl : xs.length ≤ 1000) :
    Calls Tryd.prog 46 #[.slice A xs.length c] w fun e w' => ∃ v, e = .returned v ∧ OK k46 46 w w' v xs := by
  rcases A with _ | ad
  · obtain rfl := none_len h
    clear h
    go_enter Tryd.func46, Tryd.ntmps46
    go_wp2
    go_ret
    exact ⟨_, rfl, ⟨Kd.R_nil _ _ _ _ _, Below.refl _ _⟩⟩
  · have H := Aside0.mk h
    have HL := Aside0.mk hl
    clear h hl
    go_enter Tryd.func46, Tryd.ntmps46
    go_wp2_with (first | ((with_reducible refine gate_dst (N := 5) rfl ?_); refine Kd.R_lit k46 (w0 := w) w.heap.size 46 ?hg (N := 5) ?hd (xs := ([] : List S46)) (inner := []) (ok := fun k => w.heap.size ≤ k) (okp := fun k => w.heap.size ≤ k) ?hr ?hp (fun _ hk => hk) (Nat.le_refl _) (Below.refl _ _) (Nat.le_refl _) (by simp) ?_; (case hd => rfl); (case hg => rfl); (case hr => first | (go_simp; done) | (go_simp; rfl)); (case hp => exact Reps.none _ _); intro v1 w1 ho hb hg_ hnew_; clear hg_ hnew_; have HO := Aside0.mk ho; have HB := Aside0.mk hb; clear ho hb) | ((with_reducible refine gate_builtin (b := .append) (xs := #[.tmp 5, .tmp 6]) rfl ?_); at_builtin; refine Kd.R_append_rows k46 (Rr := Kd.K k46 w1) (w0 := w) w.heap.size rfl (.tmp 5) (.tmp 6) 22 46 (.agg #[(.int .i64 0), (.int .i64 0), (.int .i64 0)]) 24 rfl Tryd.underlying22 info46 rfl (by decide) (by decide) _ [] xs _ _ _ (fun k => w.heap.size ≤ k) (fun _ => False) rfl rfl ?aO ?aR ?aK (fun _ hk => hk.elim) (fun k hk => Nat.le_trans HB.out.size hk) ?aB ?aS ?aL ?_; (case aO => exact HO.out); (case aR => exact Kd.C_below H.out HB.out); (case aK => intro x cs hx; exact hkm46 hx); (case aB => exact HB.out); (case aS => exact HB.out.size); (case aL => have := HL.out; simp; omega); intro v2 w2 ho hb hg_ hat_; clear hg_ hat_; have HO2 := Aside0.mk ho; have HB2 := Aside0.mk hb; clear ho hb))
    go_ret
    exact ⟨_, rfl, ⟨by simpa using HO2.out, HB2.out⟩⟩
set_option maxHeartbeats 4000000 in
set_option maxRecDepth 100000 in
theorem clone57_any {A : Option Addr} {c : Nat} {xs : List S57} {w : World} (h : Kd.C k57 w A xs.length xs) (hl : xs.length ≤ 1000) :
    Calls Tryd.prog 47 #[.slice A xs.length c] w fun e w' => ∃ v, e = .returned v ∧ OK k57 57 w w' v xs := by
  rcases A with _ | ad
  · obtain rfl := none_len h
    clear h
    go_enter Tryd.func47, Tryd.ntmps47
    go_wp2
    go_ret
    exact ⟨_, rfl, ⟨Kd.R_nil _ _ _ _ _, Below.refl _ _⟩⟩
  · have H := Aside0.mk h
    have HL := Aside0.mk hl
    clear h hl
    go_enter Tryd.func47, Tryd.ntmps47
    go_wp2_with (first | ((with_reducible refine gate_dst (N := 5) rfl ?_); refine Kd.R_lit k57 (w0 := w) w.heap.size 57 ?hg (N := 5) ?hd (xs := ([] : List S57)) (inner := []) (ok := fun k => w.heap.size ≤ k) (okp := fun k => w.heap.size ≤ k) ?hr ?hp (fun _ hk => hk) (Nat.le_refl _) (Below.refl _ _) (Nat.le_refl _) (by simp) ?_; (case hd => rfl); (case hg => rfl); (case hr => first | (go_simp; done) | (go_simp; rfl)); (case hp => exact Reps.none _ _); intro v1 w1 ho hb hg_ hnew_; clear hg_ hnew_; have HO := Aside0.mk ho; have HB := Aside0.mk hb; clear ho hb) | ((with_reducible refine gate_builtin (b := .append) (xs := #[.tmp 5, .tmp 6]) rfl ?_); at_builtin; refine Kd.R_append_rows k57 (Rr := Kd.K k57 w1) (w0 := w) w.heap.size rfl (.tmp 5) (.tmp 6) 23 57 (.agg #[(.int .i64 0), (.int .i64 0), (.int .i64 0), (.int .i64 0), (.int .i64 0), (.int .i64 0), (.int .i64 0), (.int .i64 0), (.int .i64 0), (.int .i64 0), (.int .i64 0)]) 88 rfl Tryd.underlying23 info57 rfl (by decide) (by decide) _ [] xs _ _ _ (fun k => w.heap.size ≤ k) (fun _ => False) rfl rfl ?aO ?aR ?aK (fun _ hk => hk.elim) (fun k hk => Nat.le_trans HB.out.size hk) ?aB ?aS ?aL ?_; (case aO => exact HO.out); (case aR => exact Kd.C_below H.out HB.out); (case aK => intro x cs hx; exact hkm57 hx); (case aB => exact HB.out); (case aS => exact HB.out.size); (case aL => have := HL.out; simp; omega); intro v2 w2 ho hb hg_ hat_; clear hg_ hat_; have HO2 := Aside0.mk ho; have HB2 := Aside0.mk hb; clear ho hb))
    go_ret
    exact ⟨_, rfl, ⟨by simpa using HO2.out, HB2.out⟩⟩
set_option maxHeartbeats 4000000 in
set_option maxRecDepth 100000 in
theorem clone3_any {A : Option Addr} {c : Nat} {xs : List Int} {w : World} (h : Kd.C (Kd.int .i64) w A xs.length xs) (hl : xs.length ≤ 1000) :
    Calls Tryd.prog 48 #[.slice A xs.length c] w fun e w' => ∃ v, e = .returned v ∧ OK (Kd.int .i64) 3 w w' v xs := by
  rcases A with _ | ad
  · obtain rfl := none_len h
    clear h
    go_enter Tryd.func48, Tryd.ntmps48
    go_wp2
    go_ret
    exact ⟨_, rfl, ⟨Kd.R_nil _ _ _ _ _, Below.refl _ _⟩⟩
  · have H := Aside0.mk h
    have HL := Aside0.mk hl
    clear h hl
    go_enter Tryd.func48, Tryd.ntmps48
    go_wp2_with (first | ((with_reducible refine gate_dst (N := 5) rfl ?_); refine Kd.R_lit (Kd.int .i64) (w0 := w) w.heap.size 3 ?hg (N := 5) ?hd (xs := ([] : List Int)) (inner := []) (ok := fun k => w.heap.size ≤ k) (okp := fun k => w.heap.size ≤ k) ?hr ?hp (fun _ hk => hk) (Nat.le_refl _) (Below.refl _ _) (Nat.le_refl _) (by simp) ?_; (case hd => rfl); (case hg => rfl); (case hr => first | (go_simp; done) | (go_simp; rfl)); (case hp => exact Reps.none _ _); intro v1 w1 ho hb hg_ hnew_; clear hg_ hnew_; have HO := Aside0.mk ho; have HB := Aside0.mk hb; clear ho hb) | ((with_reducible refine gate_builtin (b := .append) (xs := #[.tmp 5, .tmp 6]) rfl ?_); at_builtin; refine Kd.R_append_rows (Kd.int .i64) (Rr := Kd.K (Kd.int .i64) w1) (w0 := w) w.heap.size rfl (.tmp 5) (.tmp 6) 24 3 (.int .i64 0) 8 rfl Tryd.underlying24 info3 rfl (by decide) (by decide) _ [] xs _ _ _ (fun k => w.heap.size ≤ k) (fun _ => False) rfl rfl ?aO ?aR ?aK (fun _ hk => hk.elim) (fun k hk => Nat.le_trans HB.out.size hk) ?aB ?aS ?aL ?_; (case aO => exact HO.out); (case aR => exact Kd.C_below H.out HB.out); (case aK => intro x cs hx; exact hx); (case aB => exact HB.out); (case aS => exact HB.out.size); (case aL => have := HL.out; simp; omega); intro v2 w2 ho hb hg_ hat_; clear hg_ hat_; have HO2 := Aside0.mk ho; have HB2 := Aside0.mk hb; clear ho hb))
    go_ret
    exact ⟨_, rfl, ⟨by simpa using HO2.out, HB2.out⟩⟩
end Go.Proofs.YtdebbanloopcgaaDoor.Cf

/- Layer 4 (config): Clone. -/
set_option linter.unusedVariables false
set_option linter.unusedSimpArgs false
namespace Go.Proofs.YtdebbanloopcgaaDoor.Cf
open Go.RowKit Go.Proofs.YtdebbanloopcgaaDoorW.PrintWords Go.Proofs.YtdebbanloopcgaaDoorW.PrintLast Go.Proofs.YtdebbanloopcgaaDoorW.PrintMore Go.Proofs.YtdebbanloopcgaaDoor.Cz Go.Proofs.YtdebbanloopcgaaDoor.PTableWrites
attribute [local go_sem] max2_int min2_int max_two min_two max_three min_three max_four min_four Tryd.underlying26
/-- A block of another type turned. -/
theorem OK.kept46 {w0 W W' : World} {v : Value} {xs : List S46} (h : OK k46 46 w0 W v xs) {b T : Nat} {cs : Array Value} (hb : W.heap[b]? = some (.cells cs T (0, 0))) (hle : w0.heap.size ≤ b) (hT : T ≠ 46) (hg : W.grownBy W' (some b)) : OK k46 46 w0 W' v xs := by
  obtain ⟨inner, ho⟩ := Kd.R_own h.r
  refine ⟨Kd.R_mono (ok := fun k => w0.heap.size ≤ k ∧ some k ≠ some b) (Kd.R_grown (row := some b) (Kd.R_mono (Kd.R_tight rfl h.r) (fun k hk => ?_)) hg (fun k hk => hk.2)) (fun k hk => hk.1), below_grown h.bel hg (fun k hk => by cases hk; exact hle)⟩
  refine ⟨h.r.1 k hk.symm, fun e => ?_⟩
  obtain ⟨cells, hc⟩ := own_typed ho k hk.symm
  cases e
  rw [hb] at hc
  injection hc with hc
  injection hc with _ hc
  exact hT hc
theorem OK.kept57 {w0 W W' : World} {v : Value} {xs : List S57} (h : OK k57 57 w0 W v xs) {b T : Nat} {cs : Array Value} (hb : W.heap[b]? = some (.cells cs T (0, 0))) (hle : w0.heap.size ≤ b) (hT : T ≠ 57) (hg : W.grownBy W' (some b)) : OK k57 57 w0 W' v xs := by
  obtain ⟨inner, ho⟩ := Kd.R_own h.r
  refine ⟨Kd.R_mono (ok := fun k => w0.heap.size ≤ k ∧ some k ≠ some b) (Kd.R_grown (row := some b) (Kd.R_mono (Kd.R_tight rfl h.r) (fun k hk => ?_)) hg (fun k hk => hk.2)) (fun k hk => hk.1), below_grown h.bel hg (fun k hk => by cases hk; exact hle)⟩
  refine ⟨h.r.1 k hk.symm, fun e => ?_⟩
  obtain ⟨cells, hc⟩ := own_typed ho k hk.symm
  cases e
  rw [hb] at hc
  injection hc with hc
  injection hc with _ hc
  exact hT hc
theorem OK.kept3 {w0 W W' : World} {v : Value} {xs : List Int} (h : OK (Kd.int .i64) 3 w0 W v xs) {b T : Nat} {cs : Array Value} (hb : W.heap[b]? = some (.cells cs T (0, 0))) (hle : w0.heap.size ≤ b) (hT : T ≠ 3) (hg : W.grownBy W' (some b)) : OK (Kd.int .i64) 3 w0 W' v xs := by
  obtain ⟨inner, ho⟩ := Kd.R_own h.r
  refine ⟨Kd.R_mono (ok := fun k => w0.heap.size ≤ k ∧ some k ≠ some b) (Kd.R_grown (row := some b) (Kd.R_mono (Kd.R_tight rfl h.r) (fun k hk => ?_)) hg (fun k hk => hk.2)) (fun k hk => hk.1), below_grown h.bel hg (fun k hk => by cases hk; exact hle)⟩
  refine ⟨h.r.1 k hk.symm, fun e => ?_⟩
  obtain ⟨cells, hc⟩ := own_typed ho k hk.symm
  cases e
  rw [hb] at hc
  injection hc with hc
  injection hc with _ hc
  exact hT hc
/-- The three rows of a clone. -/
structure CO (w0 W : World) (ws : List S46) (ks : List S57) (ac : List Int) (v2 v3 v4 : Value) : Prop where
  o2 : OK k46 46 w0 W v2 ws
  o3 : OK k57 57 w0 W v3 ks
  o4 : OK (Kd.int .i64) 3 w0 W v4 ac
theorem CO.kept {w0 W W' : World} {ws : List S46} {ks : List S57} {ac : List Int} {v2 v3 v4 : Value} (h : CO w0 W ws ks ac v2 v3 v4) {b : Nat} {cs : Array Value} (hb : W.heap[b]? = some (.cells cs 26 (0, 0))) (hle : w0.heap.size ≤ b) (hg : W.grownBy W' (some b)) : CO w0 W' ws ks ac v2 v3 v4 :=
  ⟨h.o2.kept46 hb hle (by decide) hg, h.o3.kept57 hb hle (by decide) hg, h.o4.kept3 hb hle (by decide) hg⟩
theorem CO.far {w0 W W' : World} {ws : List S46} {ks : List S57} {ac : List Int} {v2 v3 v4 : Value} (h : CO w0 W ws ks ac v2 v3 v4) (hb : Below W.heap.size W W') : CO w0 W' ws ks ac v2 v3 v4 := ⟨h.o2.far hb, h.o3.far hb, h.o4.far hb⟩
theorem fin_heap {W : World} {g q : Nat} {a0 a1 a2 a3 a4 b0 b1 b2 b3 b4 v2 v3 v4 u0 u1 u2 u3 u4 : Value} (hs : W.heap[g]? = some (.cells #[a0, a1, a2, a3, a4] 26 (0, 0))) (hr : W.heap[q]? = some (.cells #[b0, b1, b2, b3, b4] 26 (0, 0))) (hne : q ≠ g) :
    ((((((((W.setCell ⟨g, 2, none⟩ v2).setCell ⟨g, 3, none⟩ v3).setCell ⟨g, 4, none⟩ v4).setCell ⟨q, 0, none⟩ u0).setCell ⟨q, 1, none⟩ u1).setCell ⟨q, 2, none⟩ u2).setCell ⟨q, 3, none⟩ u3).setCell ⟨q, 4, none⟩ u4).heap[q]? = some (.cells #[u0, u1, u2, u3, u4] 26 (0, 0)) :=
  blk_put (blk_put (blk_put (blk_put (blk_put (blk_far (p := ⟨g, 4, none⟩) (blk_far (p := ⟨g, 3, none⟩) (blk_far (p := ⟨g, 2, none⟩) hr hne v2) hne v3) hne v4) 0 _ rfl) 1 _ rfl) 2 _ rfl) 3 _ rfl) 4 _ rfl
theorem fin_co {w0 W : World} {ws : List S46} {ks : List S57} {ac : List Int} {z2 z3 z4 : Value} {g q : Nat} {a0 a1 a2 a3 a4 b0 b1 b2 b3 b4 v2 v3 v4 u0 u1 u2 u3 u4 : Value} (hs : W.heap[g]? = some (.cells #[a0, a1, a2, a3, a4] 26 (0, 0))) (hr : W.heap[q]? = some (.cells #[b0, b1, b2, b3, b4] 26 (0, 0))) (hne : q ≠ g) (hg : w0.heap.size ≤ g) (hq : w0.heap.size ≤ q) (h : CO w0 W ws ks ac z2 z3 z4) :
    CO w0 ((((((((W.setCell ⟨g, 2, none⟩ v2).setCell ⟨g, 3, none⟩ v3).setCell ⟨g, 4, none⟩ v4).setCell ⟨q, 0, none⟩ u0).setCell ⟨q, 1, none⟩ u1).setCell ⟨q, 2, none⟩ u2).setCell ⟨q, 3, none⟩ u3).setCell ⟨q, 4, none⟩ u4) ws ks ac z2 z3 z4 := by
  have s2 := blk_put hs 2 v2 rfl
  have s3 := blk_put s2 3 v3 rfl
  have r4 := blk_far (p := ⟨g, 4, none⟩) (blk_far (p := ⟨g, 3, none⟩) (blk_far (p := ⟨g, 2, none⟩) hr hne v2) hne v3) hne v4
  have r5 := blk_put r4 0 u0 rfl
  have r6 := blk_put r5 1 u1 rfl
  have r7 := blk_put r6 2 u2 rfl
  have r8 := blk_put r7 3 u3 rfl
  exact (((((((h.kept hs hg (grown_set _ g 2 _)).kept s2 hg (grown_set _ g 3 _)).kept s3 hg (grown_set _ g 4 _)).kept r4 hq (grown_set _ q 0 _)).kept r5 hq (grown_set _ q 1 _)).kept r6 hq (grown_set _ q 2 _)).kept r7 hq (grown_set _ q 3 _)).kept r8 hq (grown_set _ q 4 _)
set_option maxHeartbeats 8000000 in
set_option maxRecDepth 100000 in
theorem clone_any {C : Cfg} {A2 A3 A4 : Option Addr} {c2 c3 c4 : Nat} {w : World} (h : CX w C A2 c2 A3 c3 A4 c4) (l2 : C.ws.length ≤ 1000) (l3 : C.ks.length ≤ 1000) (l4 : C.ac.length ≤ 1000) :
    Calls Tryd.prog 21 #[.agg #[.int .i64 C.p, .int .i64 C.f, .slice A2 C.ws.length c2, .slice A3 C.ks.length c3, .slice A4 C.ac.length c4]] w fun e w' => ∃ B2 d2 B3 d3 B4 d4, e = .returned (.agg #[.int .i64 C.p, .int .i64 C.f, .slice B2 C.ws.length d2, .slice B3 C.ks.length d3, .slice B4 C.ac.length d4]) ∧ CO w w' C.ws C.ks C.ac (.slice B2 C.ws.length d2) (.slice B3 C.ks.length d3) (.slice B4 C.ac.length d4) := by
  obtain ⟨p, f, ws, ks, ac⟩ := C
  have HXw := Aside0.mk (show Kd.C k46 w A2 ws.length ws from h.w)
  have HXk := Aside0.mk (show Kd.C k57 w A3 ks.length ks from h.k)
  have HXa := Aside0.mk (show Kd.C (Kd.int .i64) w A4 ac.length ac from h.a)
  simp only [] at l2 l3 l4 ⊢
  have L2 := Aside0.mk l2
  have L3 := Aside0.mk l3
  have L4 := Aside0.mk l4
  clear h l2 l3 l4
  have T := Aside0.mk Tryd.underlying26
  have hS := blk_drew (blk_alloc (blk_new w (.cells #[.int .i64 p, .int .i64 f, .slice A2 ws.length c2, .slice A3 ks.length c3, .slice A4 ac.length c4] 26)) (.cells #[.int .i64 0, .int .i64 0, .slice none 0 0, .slice none 0 0, .slice none 0 0] 26))
  have HS := Aside0.mk hS
  have HR := Aside0.mk (blk_drew (show ((w.alloc (.cells #[.int .i64 p, .int .i64 f, .slice A2 ws.length c2, .slice A3 ks.length c3, .slice A4 ac.length c4] 26)).alloc (.cells #[.int .i64 0, .int .i64 0, .slice none 0 0, .slice none 0 0, .slice none 0 0] 26)).heap[w.heap.size + 1]? = some (.cells #[.int .i64 0, .int .i64 0, .slice none 0 0, .slice none 0 0, .slice none 0 0] 26 (0, 0)) by simpa using heap_alloc_new (w.alloc (.cells #[.int .i64 p, .int .i64 f, .slice A2 ws.length c2, .slice A3 ks.length c3, .slice A4 ac.length c4] 26)) (.cells #[.int .i64 0, .int .i64 0, .slice none 0 0, .slice none 0 0, .slice none 0 0] 26)))
  have HB := Aside0.mk (below_drew (below_alloc (below_alloc (Below.refl w.heap.size w) (.cells #[.int .i64 p, .int .i64 f, .slice A2 ws.length c2, .slice A3 ks.length c3, .slice A4 ac.length c4] 26)) (.cells #[.int .i64 0, .int .i64 0, .slice none 0 0, .slice none 0 0, .slice none 0 0] 26)))
  clear hS
  go_enter Tryd.func21, Tryd.ntmps21
  go_upto_region 1 with (first | fail)
  refine wp_region_any (by kernel_rfl) ?_
  change wpAny _ _ _ _ _ _ _ (World.drew _)
  refine OrdU.wpAny_of_U (S := fun w' => w'.heap[w.heap.size]? = some (.cells #[.int .i64 p, .int .i64 f, .slice A2 ws.length c2, .slice A3 ks.length c3, .slice A4 ac.length c4] 26 (0, 0))) (U := fun j => j == 10 || j == 12 || j == 14) _ _ _ _ ?_
  refine OrdU.wpAnyU_takeW (i := 0) (v := ?v0) rfl (by kernel_rfl) (by kernel_rfl) (by kernel_rfl) (fun _ _ _ h => h) (Or.inl ⟨by rfl, ?hy0⟩) ?rest0
  case hy0 =>
    intro w1 hSw
    try dsimp only at hSw
    go_simp
    try with_reducible rfl
  try simp only [Act.put, List.setIfInBounds_toArray, List.set_cons_zero, List.set_cons_succ]
  refine OrdU.wpAnyU_take (i := 1) (v := ?v1) rfl (by kernel_rfl) (by kernel_rfl) (by kernel_rfl) (by kernel_rfl) (fun _ _ _ h => h) (Or.inl ⟨by rfl, ?hy1⟩) HS.out ?rest1
  case hy1 =>
    intro w1 hSw
    try dsimp only at hSw
    have z : w1.cell? ⟨w.heap.size, 2, none⟩ = some (.slice A2 ws.length c2) := (blk_cell hSw 2).trans rfl
    go_simp
    try with_reducible rfl
  try simp only [Act.put, List.setIfInBounds_toArray, List.set_cons_zero, List.set_cons_succ]
  refine OrdU.wpAnyU_takeW (i := 3) (v := ?v3) rfl (by kernel_rfl) (by kernel_rfl) (by kernel_rfl) (fun _ _ _ h => h) (Or.inl ⟨by rfl, ?hy3⟩) ?rest3
  case hy3 =>
    intro w1 hSw
    try dsimp only at hSw
    go_simp
    try with_reducible rfl
  try simp only [Act.put, List.setIfInBounds_toArray, List.set_cons_zero, List.set_cons_succ]
  refine OrdU.wpAnyU_take (i := 4) (v := ?v4) rfl (by kernel_rfl) (by kernel_rfl) (by kernel_rfl) (by kernel_rfl) (fun _ _ _ h => h) (Or.inl ⟨by rfl, ?hy4⟩) HS.out ?rest4
  case hy4 =>
    intro w1 hSw
    try dsimp only at hSw
    have z : w1.cell? ⟨w.heap.size, 3, none⟩ = some (.slice A3 ks.length c3) := (blk_cell hSw 3).trans rfl
    go_simp
    try with_reducible rfl
  try simp only [Act.put, List.setIfInBounds_toArray, List.set_cons_zero, List.set_cons_succ]
  refine OrdU.wpAnyU_takeW (i := 6) (v := ?v6) rfl (by kernel_rfl) (by kernel_rfl) (by kernel_rfl) (fun _ _ _ h => h) (Or.inl ⟨by rfl, ?hy6⟩) ?rest6
  case hy6 =>
    intro w1 hSw
    try dsimp only at hSw
    go_simp
    try with_reducible rfl
  try simp only [Act.put, List.setIfInBounds_toArray, List.set_cons_zero, List.set_cons_succ]
  refine OrdU.wpAnyU_take (i := 7) (v := ?v7) rfl (by kernel_rfl) (by kernel_rfl) (by kernel_rfl) (by kernel_rfl) (fun _ _ _ h => h) (Or.inl ⟨by rfl, ?hy7⟩) HS.out ?rest7
  case hy7 =>
    intro w1 hSw
    try dsimp only at hSw
    have z : w1.cell? ⟨w.heap.size, 4, none⟩ = some (.slice A4 ac.length c4) := (blk_cell hSw 4).trans rfl
    go_simp
    try with_reducible rfl
  try simp only [Act.put, List.setIfInBounds_toArray, List.set_cons_zero, List.set_cons_succ]
  refine OrdU.wpAnyU_one (i := 2) (by kernel_rfl) rfl (fun K' hK => ?_)
  go_simp
  go_wp2_with (first | (go_at_call 46; refine (clone46_any (Kd.C_below HXw.out HB.out) L2.out).mono ?_; rintro e w2 ⟨v, rfl, ho⟩; obtain ⟨B2, d2, rfl, _⟩ := ho.reads; have O2 := Aside0.mk (ho.less HB.out); replace HS := Aside0.mk (blk_below HS.out ho.bel); replace HR := Aside0.mk (blk_below HR.out ho.bel); replace HB := Aside0.mk (below_step HB.out ho.bel); clear ho))
  refine hK.out _ _ (fun _ _ => HS.out) ?_
  clear hK
  try simp only [Act.put, List.setIfInBounds_toArray, List.set_cons_zero, List.set_cons_succ]
  refine OrdU.wpAnyU_takeW (i := 9) (v := ?v9) rfl (by kernel_rfl) (by kernel_rfl) (by kernel_rfl) (fun _ _ _ h => h) (Or.inl ⟨by rfl, ?hy9⟩) ?rest9
  case hy9 =>
    intro w1 hSw
    try dsimp only at hSw
    go_simp
    try with_reducible rfl
  try simp only [Act.put, List.setIfInBounds_toArray, List.set_cons_zero, List.set_cons_succ]
  refine OrdU.wpAnyU_one (i := 5) (by kernel_rfl) rfl (fun K' hK => ?_)
  go_simp
  go_wp2_with (first | (go_at_call 47; refine (clone57_any (Kd.C_below HXk.out HB.out) L3.out).mono ?_; rintro e w3 ⟨v, rfl, ho⟩; obtain ⟨B3, d3, rfl, _⟩ := ho.reads; replace O2 := Aside0.mk (O2.out.far ho.bel); have O3 := Aside0.mk (ho.less HB.out); replace HS := Aside0.mk (blk_below HS.out ho.bel); replace HR := Aside0.mk (blk_below HR.out ho.bel); replace HB := Aside0.mk (below_step HB.out ho.bel); clear ho))
  refine hK.out _ _ (fun _ _ => HS.out) ?_
  clear hK
  try simp only [Act.put, List.setIfInBounds_toArray, List.set_cons_zero, List.set_cons_succ]
  refine OrdU.wpAnyU_one (i := 8) (by kernel_rfl) rfl (fun K' hK => ?_)
  go_simp
  go_wp2_with (first | (go_at_call 48; refine (clone3_any (Kd.C_below HXa.out HB.out) L4.out).mono ?_; rintro e w4 ⟨v, rfl, ho⟩; obtain ⟨B4, d4, rfl, _⟩ := ho.reads; replace O2 := Aside0.mk (O2.out.far ho.bel); replace O3 := Aside0.mk (O3.out.far ho.bel); have O4 := Aside0.mk (ho.less HB.out); replace HS := Aside0.mk (blk_below HS.out ho.bel); replace HR := Aside0.mk (blk_below HR.out ho.bel); replace HB := Aside0.mk (below_step HB.out ho.bel); clear ho))
  refine hK.out _ _ (fun _ _ => HS.out) ?_
  clear hK
  try simp only [Act.put, List.setIfInBounds_toArray, List.set_cons_zero, List.set_cons_succ]
  have hs := HS.out
  have hr := HR.out
  have z0 := (blk_cell hs 0).trans (show _ = some (.int .i64 p) from rfl)
  have z1 := (blk_cell hs 1).trans (show _ = some (.int .i64 f) from rfl)
  have z2 := (blk_cell hs 2).trans (show _ = some (.slice A2 ws.length c2) from rfl)
  have z3 := (blk_cell hs 3).trans (show _ = some (.slice A3 ks.length c3) from rfl)
  have z4 := (blk_cell hs 4).trans (show _ = some (.slice A4 ac.length c4) from rfl)
  have y0 := (blk_cell hr 0).trans (show _ = some (.int .i64 0) from rfl)
  have y1 := (blk_cell hr 1).trans (show _ = some (.int .i64 0) from rfl)
  have y2 := (blk_cell hr 2).trans (show _ = some (.slice none 0 0) from rfl)
  have y3 := (blk_cell hr 3).trans (show _ = some (.slice none 0 0) from rfl)
  have y4 := (blk_cell hr 4).trans (show _ = some (.slice none 0 0) from rfl)
  have q2 := blk_frozen hs 2
  have q3 := blk_frozen hs 3
  have q4 := blk_frozen hs 4
  have x0 := blk_frozen hr 0
  have x1 := blk_frozen hr 1
  have x2 := blk_frozen hr 2
  have x3 := blk_frozen hr 3
  have x4 := blk_frozen hr 4
  clear hs hr
  refine OrdU.wpAnyU_one (i := 10) (by kernel_rfl) rfl (fun K' hK => ?_)
  go_simp
  refine hK.out _ _ (fun h => absurd h (by decide)) ?_
  clear hK
  try simp only [Act.put, List.setIfInBounds_toArray, List.set_cons_zero, List.set_cons_succ]
  refine OrdU.wpAnyU_takeW (i := 11) (v := ?v11) rfl (by kernel_rfl) (by kernel_rfl) (by kernel_rfl) (fun _ _ _ h => h) (Or.inl ⟨by rfl, ?hy11⟩) ?rest11
  case hy11 =>
    intro w1 hSw
    try dsimp only at hSw
    go_simp
    try with_reducible rfl
  try simp only [Act.put, List.setIfInBounds_toArray, List.set_cons_zero, List.set_cons_succ]
  refine OrdU.wpAnyU_one (i := 12) (by kernel_rfl) rfl (fun K' hK => ?_)
  go_simp
  refine hK.out _ _ (fun h => absurd h (by decide)) ?_
  clear hK
  try simp only [Act.put, List.setIfInBounds_toArray, List.set_cons_zero, List.set_cons_succ]
  refine OrdU.wpAnyU_takeW (i := 13) (v := ?v13) rfl (by kernel_rfl) (by kernel_rfl) (by kernel_rfl) (fun _ _ _ h => h) (Or.inl ⟨by rfl, ?hy13⟩) ?rest13
  case hy13 =>
    intro w1 hSw
    try dsimp only at hSw
    go_simp
    try with_reducible rfl
  try simp only [Act.put, List.setIfInBounds_toArray, List.set_cons_zero, List.set_cons_succ]
  refine OrdU.wpAnyU_one (i := 14) (by kernel_rfl) rfl (fun K' hK => ?_)
  go_simp
  refine hK.out _ _ (fun h => absurd h (by decide)) ?_
  clear hK
  try simp only [Act.put, List.setIfInBounds_toArray, List.set_cons_zero, List.set_cons_succ]
  refine OrdU.wpAnyU_done (by kernel_rfl) ?_ _
  go_wp2
  refine bodyPost_ret (results_cell_row rfl _ _ (w.heap.size + 1) 26 #[.int .i64 p, .int .i64 f, .slice B2 ws.length d2, .slice B3 ks.length d3, .slice B4 ac.length d4] (0, 0) _ rfl ?_ T.out rfl (by kernel_rfl)) rfl ?_
  · exact fin_heap HS.out HR.out (by omega)
  · exact ⟨B2, d2, B3, d3, B4, d4, rfl, fin_co HS.out HR.out (by omega) (by omega) (by omega) ⟨O2.out, O3.out, O4.out⟩⟩
end Go.Proofs.YtdebbanloopcgaaDoor.Cf
