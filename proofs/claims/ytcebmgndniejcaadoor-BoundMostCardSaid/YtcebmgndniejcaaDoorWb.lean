/- Layer 13 (window): phases, below: what is counted. -/
import Derived.Test.YtcebmgndniejcaaDoorWn
set_option linter.unusedVariables false
set_option linter.unusedSimpArgs false
namespace Go.Proofs.YtcebmgndniejcaaDoor.Wn
open Go Go.RowKit Go.Shelf Go.Proofs.YtcebmgndniejcaaDoorW.PrintWords Go.Proofs.YtcebmgndniejcaaDoorW.PrintLast Go.Proofs.YtcebmgndniejcaaDoorW.PrintMore Go.Proofs.YtcebmgndniejcaaDoor.Cz Go.Proofs.YtcebmgndniejcaaDoor.PBoundWaits Go.Proofs.YtcebmgndniejcaaDoor.Cf
attribute [local go_sem] Tryd.underlying26 Tryd.underlying41
theorem phW_small {o : Int} {x : S41} (h : x.f2 ≤ 64) : (phW o x).length ≤ 64 := by
  by_cases ho : x.f0 = o
  · rw [phW_len ho]
    omega
  · rw [phW_no ho]
    simp
theorem flat_small {o : Int} : ∀ {l : List S41}, (∀ x ∈ l, x.f2 ≤ 64) → (l.flatMap (phW o)).length ≤ l.length * 64
  | [], _ => by simp
  | x :: t, h => by
    have h1 := phW_small (o := o) (h x (List.mem_cons_self ..))
    have h2 := flat_small (o := o) (l := t) (fun y hy => h y (List.mem_cons_of_mem _ hy))
    rw [List.flatMap_cons, List.length_append, List.length_cons]
    omega
theorem phs_small (C : Cfg) (o : Int) : (phs C o).length ≤ 512 := by
  unfold phs
  by_cases h : okB C = true
  · rw [if_pos h]
    have h1 := flat_small (o := o) (l := C.ws) (fun x hx => by have := ok_win h x hx; have := ok_hd h; omega)
    have := ok_hd h
    omega
  · rw [if_neg h]
    simp
theorem phases_any {C : Cfg} {A2 A3 A4 : Option Addr} {c2 c3 c4 : Nat} (o : Int) (w : World) :
    Calls Tryd.prog 46 #[.agg #[.int .i64 C.p, .int .i64 C.f, .slice A2 C.ws.length c2, .slice A3 C.ks.length c3, .slice A4 C.ac.length c4], .int .i64 o] w fun e w' => e = .returned (.func (.func 58) #[] #[.pointer (some ⟨w.heap.size, 0, none⟩), .pointer (some ⟨w.heap.size + 1, 0, none⟩)]) ∧ w' = (w.alloc (.cells #[.int .i64 C.p, .int .i64 C.f, .slice A2 C.ws.length c2, .slice A3 C.ks.length c3, .slice A4 C.ac.length c4] 26)).alloc (.cells #[.int .i64 o] 3) := by
  go_enter Tryd.func46, Tryd.ntmps46
  go_wp2
  go_ret
  exact ⟨rfl, rfl⟩
/-- A phase of an owner's. -/
abbrev PhT (C : Cfg) (o : Int) : Type := {x : Int // x ∈ phs C o}
def vals {C : Cfg} {o : Int} (l : List (PhT C o)) : List Int := l.map Subtype.val
theorem vals_snoc {C : Cfg} {o : Int} (l : List (PhT C o)) (x : PhT C o) : vals (l ++ [x]) = vals l ++ [x.1] := by unfold vals; simp
theorem vals_len {C : Cfg} {o : Int} (l : List (PhT C o)) : (vals l).length = l.length := by unfold vals; simp
/-- What the iterator promises. -/
theorem phases_stops {C : Cfg} {A2 A3 A4 : Option Addr} {c2 c3 c4 : Nat} {wE w0 : World} (hX : CX wE C A2 c2 A3 c3 A4 c4) (hg : LG wE) (lk : C.ks.length ≤ 1000) (la : C.ac.length ≤ 1000) (lw : C.ws.length ≤ 1000)
    (o : Int) (S : Nat → Prop) (n pb ob : Nat) (hn : 1 ≤ n) (hnp : ¬ S pb) (hno : ¬ S ob) (hW : PhI wE w0 #[.int .i64 C.p, .int .i64 C.f, .slice A2 C.ws.length c2, .slice A3 C.ks.length c3, .slice A4 C.ac.length c4] o pb ob) (hS : ∀ k, S k → k < w0.heap.size) :
    SeqStopsK Fence.wide n Tryd.prog 58 #[.pointer (some ⟨pb, 0, none⟩), .pointer (some ⟨ob, 0, none⟩)] (fun x : PhT C o => #[Value.int .i64 x.1]) (Kp S wE) (fun ys => vals ys = phs C o) (fun pre => vals pre <+: phs C o) (phs C o).length w0 := by
  intro l J Jx W hb hJ hJx hY h0
  refine (phases1_in hX hg lk la lw o S n l pb ob (phs C o).length hn (Nat.le_refl _) hnp hno (fun s W => ∃ s', vals s' = s ∧ J s' W) (fun s W => ∃ s', vals s' = s ∧ Jx s' W) W (hW.far hb) (fun k hk => Nat.lt_of_lt_of_le (hS k hk) hb.size)
    (fun s A B row hs hg hr => by obtain ⟨s', h1, h2⟩ := hs; exact ⟨s', h1, hJ s' A B row h2 hg hr⟩) (fun pre x W1 hx hs hlen => ?_) ⟨[], rfl, h0⟩).mono fun e W' hh => ?_
  · obtain ⟨s', rfl, hs⟩ := hs
    refine (hY s' ⟨x, hx⟩ W1 hs (by rw [← vals_len]; exact hlen)).mono fun e W' hh => ?_
    rcases hh with ⟨h1, h2, h3⟩ | ⟨h1, h2⟩
    · exact .inl ⟨h1, ⟨_, vals_snoc _ _, h2⟩, h3⟩
    · exact .inr ⟨h1, ⟨_, vals_snoc _ _, h2⟩⟩
  · obtain ⟨h1, ⟨ys, h2, s', h3, h4⟩ | ⟨pre, h2, s', h3, h4⟩⟩ := hh
    · exact ⟨h1, .inl ⟨s', h3.trans h2, h4⟩⟩
    · exact ⟨h1, .inr ⟨s', (show vals s' <+: phs C o by rw [h3]; exact h2), h4⟩⟩
theorem Kp.tr {S : Nat → Prop} {wE A B D : World} (h : Kp S wE A B) (k : Kp S wE B D) : Kp S wE A D := ⟨h.1.trans k.1, h.2.trans k.2⟩
theorem Kp.ob {S : Nat → Prop} {wE w : World} (hn : wE.heap.size ≤ w.heap.size) (W : World) (l : Nat) (o o' : Obj) (hl : w.heap.size ≤ l) (h : W.heap[l]? = some o) (hc : o.isCells = false) (hw : o.isWalk = false) : Kp S wE W (W.putObj l o') :=
  ⟨belowK_b (w := w) hn W l o o' hl h hc hw, KB.obj W l o o' h hc⟩
theorem own_blk {B k : Nat} {t : TypeId} {cs : Array Value} {fr : Nat × Nat} {W W' : World} {row : Option Nat} (h : W.heap[k]? = some (.cells cs t fr)) (hg : W.grownBy W' row) (hr : ∀ r, row = some r → B ≤ r ∧ ∃ o : Obj, W.heap[r]? = some o ∧ o.isCells = false) : W'.heap[k]? = some (.cells cs t fr) := by
  refine (hg.block k (blk_lt h) ?_).trans h
  intro e
  obtain ⟨_, o, ho, hc⟩ := hr k e.symm
  rw [h] at ho
  cases ho
  cases hc
theorem heap5 (w : World) (o1 o2 o3 o4 o5 : Obj) : Below w.heap.size w (((((w.alloc o1).alloc o2).alloc o3).alloc o4).alloc o5) ∧ (((((w.alloc o1).alloc o2).alloc o3).alloc o4).alloc o5).heap.size = w.heap.size + 1 + 1 + 1 + 1 + 1 ∧
    (((((w.alloc o1).alloc o2).alloc o3).alloc o4).alloc o5).heap[w.heap.size + 1]? = some o2 ∧ (((((w.alloc o1).alloc o2).alloc o3).alloc o4).alloc o5).heap[w.heap.size + 1 + 1]? = some o3 ∧
    (((((w.alloc o1).alloc o2).alloc o3).alloc o4).alloc o5).heap[w.heap.size + 1 + 1 + 1]? = some o4 ∧ (((((w.alloc o1).alloc o2).alloc o3).alloc o4).alloc o5).heap[w.heap.size + 1 + 1 + 1 + 1]? = some o5 := by
  refine ⟨below_alloc (below_alloc (below_alloc (below_alloc (below_alloc (Below.refl _ _) _) _) _) _) _, by simp only [World.size_alloc], ?_, ?_, ?_, ?_⟩
  · have := blk_alloc (blk_alloc (blk_alloc (blk_new (w.alloc o1) o2) o3) o4) o5
    simpa only [World.size_alloc] using this
  · have := blk_alloc (blk_alloc (blk_new ((w.alloc o1).alloc o2) o3) o4) o5
    simpa only [World.size_alloc] using this
  · have := blk_alloc (blk_new (((w.alloc o1).alloc o2).alloc o3) o4) o5
    simpa only [World.size_alloc] using this
  · have := blk_new ((((w.alloc o1).alloc o2).alloc o3).alloc o4) o5
    simpa only [World.size_alloc] using this
/-- How many of these are below one. -/
def cnt (ph : Int) (l : List Int) : Nat := (l.filter (fun p => decide (p < ph))).length
theorem cnt_le (ph : Int) (l : List Int) : cnt ph l ≤ l.length := List.length_filter_le _ _
theorem cnt_yes {ph x : Int} {l : List Int} (h : x < ph) : cnt ph (l ++ [x]) = cnt ph l + 1 := by unfold cnt; simp [List.filter_append, h]
theorem cnt_no {ph x : Int} {l : List Int} (h : ¬ x < ph) : cnt ph (l ++ [x]) = cnt ph l := by unfold cnt; simp [List.filter_append, h]
def belowN (C : Cfg) (o ph : Int) : Int := cnt ph (phs C o)
attribute [local go_sem] Oper.semAt_some
set_option maxHeartbeats 8000000 in
set_option maxRecDepth 100000 in
theorem below_any {C : Cfg} {A2 A3 A4 : Option Addr} {c2 c3 c4 : Nat} {w : World} (hX : CX w C A2 c2 A3 c3 A4 c4) (hg : LG w) (lk : C.ks.length ≤ 1000) (la : C.ac.length ≤ 1000) (lw : C.ws.length ≤ 1000) (o ph : Int) :
    Calls Tryd.prog 41 #[.agg #[.int .i64 C.p, .int .i64 C.f, .slice A2 C.ws.length c2, .slice A3 C.ks.length c3, .slice A4 C.ac.length c4], .int .i64 o, .int .i64 ph] w fun e w' => e = .returned (.int .i64 (belowN C o ph)) ∧ Below w.heap.size w w' := by
  have HX := Aside0.mk hX
  have HG := Aside0.mk hg
  have HN := Aside0.mk (phs_small C o)
  clear hX hg
  refine (callsIn_wide (n := 5)).1 ?_
  refine callsIn_of_wp_marks Tryd.func41 rfl trivial ?_ rfl
  simp only [Tryd.ntmps41, List.size_toArray, List.length_cons, List.length_nil, Nat.reduceAdd, Nat.reduceSub, Array.replicate_succ, Array.replicate_zero, List.push_toArray, List.append_toArray, List.nil_append, List.cons_append]
  gi_wp2_with (first | (gi_at_call 46; refine (callsIn_wide.2 (phases_any _ _)).mono ?_; rintro e w' ⟨rfl, rfl⟩) | (refine ⟨trivial, ?_⟩; gi_at_call 46; refine (callsIn_wide.2 (phases_any _ _)).mono ?_; rintro e w' ⟨rfl, rfl⟩))
  have H5 := heap5 w (.cells #[.int .i64 C.p, .int .i64 C.f, .slice A2 C.ws.length c2, .slice A3 C.ks.length c3, .slice A4 C.ac.length c4] 26) (.cells #[.int .i64 ph] 3) (.cells #[.int .i64 0] 3) (.cells #[.int .i64 C.p, .int .i64 C.f, .slice A2 C.ws.length c2, .slice A3 C.ks.length c3, .slice A4 C.ac.length c4] 26) (.cells #[.int .i64 o] 3)
  revert H5
  generalize (((((w.alloc (.cells #[.int .i64 C.p, .int .i64 C.f, .slice A2 C.ws.length c2, .slice A3 C.ks.length c3, .slice A4 C.ac.length c4] 26)).alloc (.cells #[.int .i64 ph] 3)).alloc (.cells #[.int .i64 0] 3)).alloc (.cells #[.int .i64 C.p, .int .i64 C.f, .slice A2 C.ws.length c2, .slice A3 C.ks.length c3, .slice A4 C.ac.length c4] 26)).alloc (.cells #[.int .i64 o] 3)) = W5
  intro H5
  obtain ⟨hb5, hs5, ha5, hc5, hp5, ho5⟩ := H5
  refine wpIn_rangeFunc_ownF rfl (by decide) (gf := 58) (lb := #[.pointer (some ⟨w.heap.size + 1 + 1 + 1, 0, none⟩), .pointer (some ⟨w.heap.size + 1 + 1 + 1 + 1, 0, none⟩)]) rfl trivial (enters_of Tryd.func58 (by kernel_rfl) rfl)
    (phases_stops (w0 := W5) HX.out HG.out lk la lw o (fun k => k = w.heap.size + 1 + 1) (5 - 1) (w.heap.size + 1 + 1 + 1) (w.heap.size + 1 + 1 + 1 + 1) (by decide) (by omega) (by omega) ⟨hb5, hp5, ho5⟩ (fun k hk => by omega)) Kp.tr (Kp.ob (by omega)) (Below.refl _ _) (fun _ => rfl)
    (fun (pre : List (PhT C o)) W => (W.heap[w.heap.size + 1 + 1]? = some (.cells #[.int .i64 (cnt ph (vals pre))] 3 (0, 0)) ∧ W.heap[w.heap.size + 1]? = some (.cells #[.int .i64 ph] 3 (0, 0))) ∧ Below w.heap.size w W)
    (fun _ _ _ => False)
    (OwnFrom.and (fun s A B row hs hg hr => ⟨own_blk hs.1 hg hr, own_blk hs.2 hg hr⟩) (ownFrom_below (Nat.le_refl _) (by omega)))
    (fun _ _ _ _ _ hs _ _ => hs)
    ⟨⟨hc5, ha5⟩, hb5⟩
    (fun x => { tmps := #[.agg #[.int .i64 C.p, .int .i64 C.f, .slice A2 C.ws.length c2, .slice A3 C.ks.length c3, .slice A4 C.ac.length c4], .int .i64 o, .int .i64 ph, .pointer (some ⟨w.heap.size, 0, none⟩), undef, .pointer (some ⟨w.heap.size + 1, 0, none⟩), .int .i64 0, .pointer (some ⟨w.heap.size + 1 + 1, 0, none⟩), .int .i64 x.1, .agg #[.int .i64 C.p, .int .i64 C.f, .slice A2 C.ws.length c2, .slice A3 C.ks.length c3, .slice A4 C.ac.length c4], .int .i64 o, .func (.func 58) #[] #[.pointer (some ⟨w.heap.size + 1 + 1 + 1, 0, none⟩), .pointer (some ⟨w.heap.size + 1 + 1 + 1 + 1, 0, none⟩)], .int .i64 x.1, undef, undef, undef, undef, undef, undef], defers := [] }) ?assign ?body ?done ?stop
  case assign =>
    intro l x W K hK
    gi_wp2
    exact hK
  case body =>
    rintro l pre ⟨x, hx0⟩ W ⟨⟨hc, ha⟩, hB⟩ hlen
    have c0 := (blk_cell hc 0).trans (show _ = some (.int .i64 (cnt ph (vals pre))) from rfl)
    have cf := blk_frozen hc 0
    have a0 := (blk_cell ha 0).trans (show _ = some (.int .i64 ph) from rfl)
    have hcl : cnt ph (vals pre) ≤ 512 := by have := cnt_le ph (vals pre); have := HN.out; have := vals_len pre; omega
    have HHC := Aside0.mk hc
    have HHA := Aside0.mk ha
    have HHB := Aside0.mk hB
    clear hc ha hB hlen hb5 hs5 ha5 hc5 hp5 ho5
    by_cases hx : x < ph
    · have d : decide (x < ph) = true := decide_eq_true hx
      have HY : Aside0 (cnt ph (vals pre ++ [x]) = cnt ph (vals pre) + 1) := ⟨cnt_yes hx⟩
      clear hx
      gi_wp2
      refine ⟨KeepsOthers.setCell _ _ _, ⟨(Below.refl w.heap.size W).setCell (p := ⟨w.heap.size + 1 + 1, 0, none⟩) (by show w.heap.size ≤ w.heap.size + 1 + 1; omega) _, KB.put (S := fun k => k = w.heap.size + 1 + 1) (g := w.heap.size + 1 + 1) W rfl 0 _⟩, ⟨?_, blk_far (p := ⟨w.heap.size + 1 + 1, 0, none⟩) HHA.out (by show w.heap.size + 1 ≠ w.heap.size + 1 + 1; omega) _⟩, below_set HHB.out (by omega)⟩
      rw [vals_snoc, HY.out]
      exact blk_put HHC.out 0 _ (by simp)
    · have d : decide (x < ph) = false := decide_eq_false hx
      have HY : Aside0 (cnt ph (vals pre ++ [x]) = cnt ph (vals pre)) := ⟨cnt_no hx⟩
      clear hx
      gi_wp2
      exact ⟨KeepsOthers.refl _, ⟨Below.refl _ _, KB.refl _⟩, ⟨by rw [vals_snoc, HY.out]; exact HHC.out, HHA.out⟩, HHB.out⟩
  case done =>
    rintro D ys W hD hys ⟨⟨hc, ha⟩, hB⟩ hK
    rw [hys] at hc
    have c0 := (blk_cell hc 0).trans (show _ = some (.int .i64 (cnt ph (phs C o))) from rfl)
    have HHC := Aside0.mk hc
    have HHB := Aside0.mk hB
    have hDw : w.heap.size ≤ D := by omega
    clear hc ha hB hb5 hs5 ha5 hc5 hp5 ho5
    gi_wp2
    refine ⟨by simp, .inl ⟨_, _, rfl, run_takeDeferred hK, ?_⟩⟩
    refine ⟨_, results_tmp rfl _ _ _, rfl, HHB.out.trans (belowK_b (w := w) (Nat.le_refl _) W D _ _ hDw hK rfl rfl)⟩
  case stop =>
    rintro D c pre W _ _ h _
    exact h.elim
/-- How many ticks of a frame are an owner's. -/
def countN (C : Cfg) (o : Int) : Int := belowN C o 64
theorem count_any {C : Cfg} {A2 A3 A4 : Option Addr} {c2 c3 c4 : Nat} {w : World} (hX : CX w C A2 c2 A3 c3 A4 c4) (hg : LG w) (lk : C.ks.length ≤ 1000) (la : C.ac.length ≤ 1000) (lw : C.ws.length ≤ 1000) (o : Int) :
    Calls Tryd.prog 26 #[.agg #[.int .i64 C.p, .int .i64 C.f, .slice A2 C.ws.length c2, .slice A3 C.ks.length c3, .slice A4 C.ac.length c4], .int .i64 o] w fun e w' => e = .returned (.int .i64 (countN C o)) ∧ Below w.heap.size w w' := by
  have hb1 := below_alloc (Below.refl w.heap.size w) (.cells #[.int .i64 C.p, .int .i64 C.f, .slice A2 C.ws.length c2, .slice A3 C.ks.length c3, .slice A4 C.ac.length c4] 26)
  have HC := Aside0.mk (below_any (hX.below hb1) (hg.below hb1) lk la lw o 64)
  clear hX hg hb1
  unfold countN
  go_enter Tryd.func26, Tryd.ntmps26
  go_wp2_with (first | (go_at_call 41; refine HC.out.mono ?_; rintro e w2 ⟨rfl, hb⟩; have HB := Aside0.mk (below_step (below_alloc (Below.refl w.heap.size w) _) hb); clear hb))
  go_ret
  exact ⟨rfl, HB.out⟩
end Go.Proofs.YtcebmgndniejcaaDoor.Wn
