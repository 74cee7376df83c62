/- Layer 5 (table): TbE, TbF, TbG, TbH, laid into one text by wip/tq.py. -/
import Derived.Test.YtdebbanloopcgaaDoorTbK
import Derived.Test.YtdebbanloopcgaaDoorTbW1
import Derived.Deep.RegionHeld3
/- Layer 5 (table): Encode. -/
set_option linter.unusedVariables false
set_option linter.unusedSimpArgs false
namespace Go.Proofs.YtdebbanloopcgaaDoor.Tb
open Go Go.RowKit Go.Proofs.YtdebbanloopcgaaDoorW.PrintWords Go.Proofs.YtdebbanloopcgaaDoorW.PrintLast Go.Proofs.YtdebbanloopcgaaDoorW.PrintMore Go.Proofs.YtdebbanloopcgaaDoor.Cz Go.Proofs.YtdebbanloopcgaaDoor.PTableWrites Go.Proofs.YtdebbanloopcgaaDoor.Cf
attribute [local go_sem] max2_int min2_int max_two min_two max_three min_three max_four min_four Tryd.underlying26 Tryd.underlying46 Tryd.underlying57
theorem cell_b {W W' : World} {a : Addr} {v : Value} (hc : W.cell? a = some v) (hb : Below W.heap.size W W') : W'.cell? a = some v := (hb.cell (World.block_lt_of_cell? _ _ hc)).trans hc
theorem cell_g {W W' : World} {a : Addr} {v : Value} {b : Nat} (hc : W.cell? a = some v) (hg : W.grownBy W' (some b)) (hne : a.block ≠ b) : W'.cell? a = some v := by
  have hk := hg.block a.block (World.block_lt_of_cell? _ _ hc) (fun e => hne (Option.some.inj e))
  unfold World.cell? at hc ⊢
  rw [hk]
  exact hc
/-- The bytes that are being written: the variable's block, its value, the row. -/
structure EB (w0 W : World) (qb : Nat) (v : Value) (xs : List Int) : Prop where
  bl : W.heap[qb]? = some (.cells #[v] 29 (0, 0))
  ob : Wi.OI .u8 5 w0 W v xs
  hq : w0.heap.size ≤ qb
theorem EB.far {w0 W W' : World} {qb : Nat} {v : Value} {xs : List Int} (h : EB w0 W qb v xs) (hb : Below W.heap.size W W') : EB w0 W' qb v xs := ⟨blk_below h.bl hb, h.ob.far hb, h.hq⟩
/-- A block that is no row of bytes is written. -/
theorem EB.kept {w0 W W' : World} {qb : Nat} {v : Value} {xs : List Int} (h : EB w0 W qb v xs) {b t : Nat} {cs : Array Value} (hb : W.heap[b]? = some (.cells cs t (0, 0))) (h1 : t ≠ 29) (h2 : 5 ≠ t) (hle : w0.heap.size ≤ b) (hg : W.grownBy W' (some b)) : EB w0 W' qb v xs := by
  refine ⟨blk_grown h.bl hg (fun e => ?_), h.ob.grown hg (fun k hk => by cases hk; exact hle) (fun k hk => by cases hk; exact fun e => Kd.R_ne h.ob.r hb h2 e.symm), h.hq⟩
  have e' : qb = b := Option.some.inj e
  subst e'
  have := h.bl.symm.trans hb
  simp at this
  exact h1 this.2.symm
set_option maxHeartbeats 16000000 in
set_option maxRecDepth 100000 in
theorem enc1_any {w0 W : World} {qb : Nat} {v : Value} {xs : List Int} (h : EB w0 W qb v xs) (hl : xs.length ≤ 900) {n u : Int} (hp : Wi.putE n u = 0) {ad : Addr} (hc : W.cell? ad = some (.int .i64 u)) :
    Calls Tryd.prog 23 #[.int .i64 n, .pointer (some ad), .pointer (some ⟨qb, 0, none⟩)] W fun e W' => e = .returned (.tuple #[]) ∧ W.grownBy W' (some qb) ∧ ∃ v', EB w0 W' qb v' (xs ++ Wi.putB n u) := by
  obtain ⟨A, c, rfl, hci⟩ := h.ob.reads
  have HH := Aside0.mk h
  have HP := Aside0.mk (Wi.put_ok hp (Wi.CI.below hci (below_drew (Below.refl W.heap.size W))) hl)
  have q0 := (blk_cell h.bl 0).trans (show _ = some (.slice A xs.length c) from rfl)
  have TS := Aside0.mk (fun (W' : World) (hb : Below W.heap.size W W') => And.intro (cell_b q0 hb) (cell_b hc hb))
  clear h hp hci hc q0
  obtain ⟨ys, hys⟩ : ∃ ys, xs ++ Wi.putB n u = ys := ⟨_, rfl⟩
  rw [hys] at HP ⊢
  clear hys
  go_enter Tryd.func23, Tryd.ntmps23
  go_upto_region 0 with (first | fail)
  refine start_ (n := 10) (S := (fun w' => w'.cell? ⟨qb, 0, none⟩ = some (.slice A xs.length c) ∧ w'.cell? ad = some (.int .i64 u))) (ds := [9]) #[false, false, false, false, false, false, false, false, false, false] (by kernel_rfl) rfl rfl (TS.out _ (below_drew (Below.refl _ _))) (fun hHeld => ?_)
  refine take_ (i := 0) (N := some 6) (v := ?_) (a' := ?_) #[true, false, false, false, false, false, false, false, false, false] rfl rfl (by kernel_rfl) (fun _ _ _ h => h) (Or.inl ⟨by rfl, ?_⟩) hHeld ?_ ?_
  rotate_left
  · intro w' hSw
    obtain ⟨s0, s1⟩ := hSw
    go_simp
    with_reducible rfl
  rotate_left
  · simp only [Act.put, List.setIfInBounds_toArray, List.set_cons_zero, List.set_cons_succ, i64_w, i32_w]
    rfl
  refine pure_ (i := 1) (N := some 7) (v := ?_) (a' := ?_) #[true, true, false, false, false, false, false, false, false, false] rfl rfl (by kernel_rfl) (fun _ _ _ h => h) (Or.inl ⟨by rfl, ?_⟩) ?_ ?_
  rotate_left
  · intro w'
    go_simp
    with_reducible rfl
  rotate_left
  · simp only [Act.put, List.setIfInBounds_toArray, List.set_cons_zero, List.set_cons_succ, i64_w, i32_w]
    rfl
  refine pure_ (i := 2) (N := some 8) (v := ?_) (a' := ?_) #[true, true, true, false, false, false, false, false, false, false] rfl rfl (by kernel_rfl) (fun _ _ _ h => h) (Or.inl ⟨by rfl, ?_⟩) ?_ ?_
  rotate_left
  · intro w'
    go_simp
    with_reducible rfl
  rotate_left
  · simp only [Act.put, List.setIfInBounds_toArray, List.set_cons_zero, List.set_cons_succ, i64_w, i32_w]
    rfl
  refine pure_ (i := 3) (N := some 9) (v := ?_) (a' := ?_) #[true, true, true, true, false, false, false, false, false, false] rfl rfl (by kernel_rfl) (fun _ _ _ h => h) (Or.inl ⟨by rfl, ?_⟩) ?_ ?_
  rotate_left
  · intro w'
    go_simp
    with_reducible rfl
  rotate_left
  · simp only [Act.put, List.setIfInBounds_toArray, List.set_cons_zero, List.set_cons_succ, i64_w, i32_w]
    rfl
  refine take_ (i := 4) (N := some 10) (v := ?_) (a' := ?_) #[true, true, true, true, true, false, false, false, false, false] rfl rfl (by kernel_rfl) (fun _ _ _ h => h) (Or.inl ⟨by rfl, ?_⟩) hHeld ?_ ?_
  rotate_left
  · intro w' hSw
    obtain ⟨s0, s1⟩ := hSw
    go_simp
    with_reducible rfl
  rotate_left
  · simp only [Act.put, List.setIfInBounds_toArray, List.set_cons_zero, List.set_cons_succ, i64_w, i32_w]
    rfl
  clear hHeld
  refine one_ (i := 5) (N := some 11) #[true, true, true, true, true, true, false, false, false, false] rfl rfl (by kernel_rfl) (by decide) (fun K hK => ?_)
  refine goes_ Tryd.func24 (by kernel_rfl) rfl #[.slice A xs.length c, .int .i64 n, .int .i64 u] (by rfl) rfl rfl (by (try simp only [List.map_toArray, List.map_cons, List.map_nil]); first | done | rfl | (simp only [List.length_drop, List.length_take]; rfl)) ?_
  (with_reducible refine (HP.out).mono ?_)
  rintro e w1 ⟨r, rfl, ho⟩
  refine ⟨_, rfl, ?_⟩
  obtain ⟨A1, c1, rfl, _⟩ := ho.reads
  have hb1 := below_step (below_drew (Below.refl W.heap.size W)) ho.bel
  have HO := Aside0.mk ho
  have HB1 := Aside0.mk hb1
  have qf := blk_frozen (blk_below HH.out.bl hb1) 0
  have q1 := (blk_cell (blk_below HH.out.bl hb1) 0).trans (show _ = some (.slice A xs.length c) from rfl)
  clear ho hb1
  refine hK.out _ _ (TS.out _ HB1.out) (fun hHeld => ?_)
  clear hK K
  refine norm_ (a' := ?_) ?_ ?_
  rotate_left
  · show Act.put _ (some 11) _ = _
    simp only [Act.put, List.setIfInBounds_toArray, List.set_cons_zero, List.set_cons_succ, i64_w, i32_w]
    rfl
  refine pure_ (i := 6) (N := some 5) (v := ?_) (a' := ?_) #[true, true, true, true, true, true, true, false, false, false] rfl rfl (by kernel_rfl) (fun _ _ _ h => h) (Or.inl ⟨by rfl, ?_⟩) ?_ ?_
  rotate_left
  · intro w'
    go_simp
    with_reducible rfl
  rotate_left
  · simp only [Act.put, List.setIfInBounds_toArray, List.set_cons_zero, List.set_cons_succ, i64_w, i32_w]
    rfl
  refine pure_ (i := 7) (N := some 12) (v := ?_) (a' := ?_) #[true, true, true, true, true, true, true, true, false, false] rfl rfl (by kernel_rfl) (fun _ _ _ h => h) (Or.inl ⟨by rfl, ?_⟩) ?_ ?_
  rotate_left
  · intro w'
    go_simp
    with_reducible rfl
  rotate_left
  · simp only [Act.put, List.setIfInBounds_toArray, List.set_cons_zero, List.set_cons_succ, i64_w, i32_w]
    rfl
  refine pure_ (i := 8) (N := some 13) (v := ?_) (a' := ?_) #[true, true, true, true, true, true, true, true, true, false] rfl rfl (by kernel_rfl) (fun _ _ _ h => h) (Or.inl ⟨by rfl, ?_⟩) ?_ ?_
  rotate_left
  · intro w'
    go_simp
    with_reducible rfl
  rotate_left
  · simp only [Act.put, List.setIfInBounds_toArray, List.set_cons_zero, List.set_cons_succ, i64_w, i32_w]
    rfl
  refine last_ (i := 9) (N := none) #[true, true, true, true, true, true, true, true, true, true] rfl rfl (by kernel_rfl) (by decide) (fun K hK => ?_)
  refine skip_ (w1 := ?_) (by rfl) rfl ?_ ?_
  rotate_left
  · go_simp
    rfl
  refine hK.out _ _ ?_
  clear hK K
  refine done_ (by kernel_rfl) ?_
  go_wp2
  go_end0
  have hbl := blk_below HH.out.bl HB1.out
  have hw : w0.heap.size ≤ W.heap.size := HH.out.ob.bel.size
  have hw1 : W.heap.size ≤ w1.heap.size := HB1.out.size
  refine ⟨rfl, World.grownBy.trans ⟨HB1.out.os, HB1.out.tape, HB1.out.output, HB1.out.size, fun k hk _ => HB1.out.block k hk⟩ (grown_set _ qb 0 _), _, blk_put hbl 0 _ rfl, ?_, HH.out.hq⟩
  have ho := HO.out.less (below_step HH.out.ob.bel (below_drew (Below.refl _ _)))
  exact ho.grown (grown_set _ qb 0 _) (fun k hk => by cases hk; exact HH.out.hq) (fun k hk => by cases hk; exact fun e => Kd.R_ne ho.r hbl (by decide) e.symm)
set_option maxHeartbeats 16000000 in
set_option maxRecDepth 100000 in
theorem cnt46_any {w0 W : World} {qb : Nat} {v : Value} {xs : List Int} (h : EB w0 W qb v xs) (hl : xs.length ≤ 900) {A : Option Addr} {n c : Nat} (hn : n ≤ 200) {sp : Addr} (hc : W.cell? sp = some (.slice A n c)) (hs : sp.block ≠ qb) :
    Calls Tryd.prog 49 #[.func (.func 23) #[] #[.pointer (some ⟨qb, 0, none⟩)], .pointer (some sp)] W fun e W' => e = .returned (.tuple #[]) ∧ W.grownBy W' (some qb) ∧ ∃ v', EB w0 W' qb v' (xs ++ Wi.putB 1 n) := by
  have H1 := And.intro (h.far (below_alloc (Below.refl W.heap.size W) (.cells #[.int .i64 n] 3))) (And.intro (blk_new W (.cells #[.int .i64 n] 3)) (cell_b hc (below_alloc (Below.refl W.heap.size W) (.cells #[.int .i64 n] 3))))
  have hg0 : W.grownBy (W.alloc (.cells #[.int .i64 n] 3)) (some qb) := by
    have hb := below_alloc (Below.refl W.heap.size W) (.cells #[.int .i64 n] 3)
    exact ⟨hb.os, hb.tape, hb.output, hb.size, fun k hk _ => hb.block k hk⟩
  have hqlt : qb ≠ W.heap.size := by have := blk_lt h.bl; omega
  have hsl : sp.block ≠ W.heap.size := by have := World.block_lt_of_cell? _ _ hc; omega
  clear h
  go_enter Tryd.func49, Tryd.ntmps49
  go_upto_region 1 with (first | fail)
  clear hc
  revert H1 hg0
  generalize (W.alloc (.cells #[.int .i64 n] 3)) = W1
  generalize W.heap.size = nb at hqlt hsl ⊢
  intro H1 hg0
  obtain ⟨H1, hn1, hc1⟩ := H1
  have hn0 := (blk_cell hn1 0).trans (show _ = some (.int .i64 (n : Int)) from rfl)
  have HE := Aside0.mk (enc1_any H1 hl (n := 1) (u := n) (by unfold Wi.putE Wi.lim; rw [if_pos rfl, if_neg (by decide), if_neg (by omega)]) hn0)
  have HG0 := Aside0.mk hg0
  clear H1 hg0
  go_upto_region 2 with (first | (go_at_call 23; (with_reducible refine HE.out.mono ?_); rintro e w2 ⟨rfl, hg, v', hE⟩; have e1 := cell_g hc1 hg hs; have e2 := cell_g hn0 hg (show nb ≠ qb from fun e => hqlt e.symm); have HG := Aside0.mk hg; have HE2 := Aside0.mk hE; clear hg hE hc1 hn0))
  have TS := Aside0.mk (fun (W' : World) (hb : Below w2.heap.size w2 W') => And.intro (cell_b e1 hb) (cell_b e2 hb))
  go_region_held3 (fun w' => w'.cell? sp = some (.slice A n c) ∧ w'.cell? ⟨nb, 0, none⟩ = some (.int .i64 (n : Int))) (first | exact TS.out _ (below_drew (Below.refl _ _)) | go_keep) (first | fail)
  all_goals
    go_wp2
    go_end0
    exact ⟨rfl, World.grownBy.trans HG0.out (World.grownBy.trans HG.out ⟨rfl, rfl, rfl, Nat.le_refl _, fun _ _ _ => rfl⟩), v', HE2.out.far (below_drew (Below.refl _ _))⟩
set_option maxHeartbeats 16000000 in
set_option maxRecDepth 100000 in
theorem cnt57_any {w0 W : World} {qb : Nat} {v : Value} {xs : List Int} (h : EB w0 W qb v xs) (hl : xs.length ≤ 900) {A : Option Addr} {n c : Nat} (hn : n ≤ 200) {sp : Addr} (hc : W.cell? sp = some (.slice A n c)) (hs : sp.block ≠ qb) :
    Calls Tryd.prog 51 #[.func (.func 23) #[] #[.pointer (some ⟨qb, 0, none⟩)], .pointer (some sp)] W fun e W' => e = .returned (.tuple #[]) ∧ W.grownBy W' (some qb) ∧ ∃ v', EB w0 W' qb v' (xs ++ Wi.putB 1 n) := by
  have H1 := And.intro (h.far (below_alloc (Below.refl W.heap.size W) (.cells #[.int .i64 n] 3))) (And.intro (blk_new W (.cells #[.int .i64 n] 3)) (cell_b hc (below_alloc (Below.refl W.heap.size W) (.cells #[.int .i64 n] 3))))
  have hg0 : W.grownBy (W.alloc (.cells #[.int .i64 n] 3)) (some qb) := by
    have hb := below_alloc (Below.refl W.heap.size W) (.cells #[.int .i64 n] 3)
    exact ⟨hb.os, hb.tape, hb.output, hb.size, fun k hk _ => hb.block k hk⟩
  have hqlt : qb ≠ W.heap.size := by have := blk_lt h.bl; omega
  have hsl : sp.block ≠ W.heap.size := by have := World.block_lt_of_cell? _ _ hc; omega
  clear h
  go_enter Tryd.func51, Tryd.ntmps51
  go_upto_region 1 with (first | fail)
  clear hc
  revert H1 hg0
  generalize (W.alloc (.cells #[.int .i64 n] 3)) = W1
  generalize W.heap.size = nb at hqlt hsl ⊢
  intro H1 hg0
  obtain ⟨H1, hn1, hc1⟩ := H1
  have hn0 := (blk_cell hn1 0).trans (show _ = some (.int .i64 (n : Int)) from rfl)
  have HE := Aside0.mk (enc1_any H1 hl (n := 1) (u := n) (by unfold Wi.putE Wi.lim; rw [if_pos rfl, if_neg (by decide), if_neg (by omega)]) hn0)
  have HG0 := Aside0.mk hg0
  clear H1 hg0
  go_upto_region 2 with (first | (go_at_call 23; (with_reducible refine HE.out.mono ?_); rintro e w2 ⟨rfl, hg, v', hE⟩; have e1 := cell_g hc1 hg hs; have e2 := cell_g hn0 hg (show nb ≠ qb from fun e => hqlt e.symm); have HG := Aside0.mk hg; have HE2 := Aside0.mk hE; clear hg hE hc1 hn0))
  have TS := Aside0.mk (fun (W' : World) (hb : Below w2.heap.size w2 W') => And.intro (cell_b e1 hb) (cell_b e2 hb))
  go_region_held3 (fun w' => w'.cell? sp = some (.slice A n c) ∧ w'.cell? ⟨nb, 0, none⟩ = some (.int .i64 (n : Int))) (first | exact TS.out _ (below_drew (Below.refl _ _)) | go_keep) (first | fail)
  all_goals
    go_wp2
    go_end0
    exact ⟨rfl, World.grownBy.trans HG0.out (World.grownBy.trans HG.out ⟨rfl, rfl, rfl, Nat.le_refl _, fun _ _ _ => rfl⟩), v', HE2.out.far (below_drew (Below.refl _ _))⟩
set_option maxHeartbeats 16000000 in
set_option maxRecDepth 100000 in
theorem cnt3_any {w0 W : World} {qb : Nat} {v : Value} {xs : List Int} (h : EB w0 W qb v xs) (hl : xs.length ≤ 900) {A : Option Addr} {n c : Nat} (hn : n ≤ 200) {sp : Addr} (hc : W.cell? sp = some (.slice A n c)) (hs : sp.block ≠ qb) :
    Calls Tryd.prog 52 #[.func (.func 23) #[] #[.pointer (some ⟨qb, 0, none⟩)], .pointer (some sp)] W fun e W' => e = .returned (.tuple #[]) ∧ W.grownBy W' (some qb) ∧ ∃ v', EB w0 W' qb v' (xs ++ Wi.putB 1 n) := by
  have H1 := And.intro (h.far (below_alloc (Below.refl W.heap.size W) (.cells #[.int .i64 n] 3))) (And.intro (blk_new W (.cells #[.int .i64 n] 3)) (cell_b hc (below_alloc (Below.refl W.heap.size W) (.cells #[.int .i64 n] 3))))
  have hg0 : W.grownBy (W.alloc (.cells #[.int .i64 n] 3)) (some qb) := by
    have hb := below_alloc (Below.refl W.heap.size W) (.cells #[.int .i64 n] 3)
    exact ⟨hb.os, hb.tape, hb.output, hb.size, fun k hk _ => hb.block k hk⟩
  have hqlt : qb ≠ W.heap.size := by have := blk_lt h.bl; omega
  have hsl : sp.block ≠ W.heap.size := by have := World.block_lt_of_cell? _ _ hc; omega
  clear h
  go_enter Tryd.func52, Tryd.ntmps52
  go_upto_region 1 with (first | fail)
  clear hc
  revert H1 hg0
  generalize (W.alloc (.cells #[.int .i64 n] 3)) = W1
  generalize W.heap.size = nb at hqlt hsl ⊢
  intro H1 hg0
  obtain ⟨H1, hn1, hc1⟩ := H1
  have hn0 := (blk_cell hn1 0).trans (show _ = some (.int .i64 (n : Int)) from rfl)
  have HE := Aside0.mk (enc1_any H1 hl (n := 1) (u := n) (by unfold Wi.putE Wi.lim; rw [if_pos rfl, if_neg (by decide), if_neg (by omega)]) hn0)
  have HG0 := Aside0.mk hg0
  clear H1 hg0
  go_upto_region 2 with (first | (go_at_call 23; (with_reducible refine HE.out.mono ?_); rintro e w2 ⟨rfl, hg, v', hE⟩; have e1 := cell_g hc1 hg hs; have e2 := cell_g hn0 hg (show nb ≠ qb from fun e => hqlt e.symm); have HG := Aside0.mk hg; have HE2 := Aside0.mk hE; clear hg hE hc1 hn0))
  have TS := Aside0.mk (fun (W' : World) (hb : Below w2.heap.size w2 W') => And.intro (cell_b e1 hb) (cell_b e2 hb))
  go_region_held3 (fun w' => w'.cell? sp = some (.slice A n c) ∧ w'.cell? ⟨nb, 0, none⟩ = some (.int .i64 (n : Int))) (first | exact TS.out _ (below_drew (Below.refl _ _)) | go_keep) (first | fail)
  all_goals
    go_wp2
    go_end0
    exact ⟨rfl, World.grownBy.trans HG0.out (World.grownBy.trans HG.out ⟨rfl, rfl, rfl, Nat.le_refl _, fun _ _ _ => rfl⟩), v', HE2.out.far (below_drew (Below.refl _ _))⟩
end Go.Proofs.YtdebbanloopcgaaDoor.Tb

/- Layer 5 (table): owner and all, as Encode calls them. -/
set_option linter.unusedVariables false
set_option linter.unusedSimpArgs false
namespace Go.Proofs.YtdebbanloopcgaaDoor.Tb
open Go Go.RowKit Go.Proofs.YtdebbanloopcgaaDoorW.PrintWords Go.Proofs.YtdebbanloopcgaaDoorW.PrintLast Go.Proofs.YtdebbanloopcgaaDoorW.PrintMore Go.Proofs.YtdebbanloopcgaaDoor.Cz Go.Proofs.YtdebbanloopcgaaDoor.PTableWrites Go.Proofs.YtdebbanloopcgaaDoor.Cf
attribute [local go_sem] max2_int min2_int max_two min_two max_three min_three max_four min_four Tryd.underlying26 Tryd.underlying46 Tryd.underlying57
theorem set_back {cs : Array Value} {i : Nat} {u : Value} (h : cs[i]? = some u) : cs.setIfInBounds i u = cs := by
  apply Array.ext_getElem?
  intro j
  rw [Array.getElem?_setIfInBounds]
  split
  · rename_i hj
    subst hj
    split
    · exact h.symm
    · rename_i hn
      rw [Array.getElem?_eq_none (by omega)]
  · rfl
theorem set_back2 {cs : Array Value} {i : Nat} {u x : Value} (h : cs[i]? = some u) : (cs.setIfInBounds i x).setIfInBounds i u = cs := by
  apply Array.ext_getElem?
  intro j
  rw [Array.getElem?_setIfInBounds, Array.getElem?_setIfInBounds, Array.size_setIfInBounds]
  split
  · rename_i hj
    subst hj
    split
    · exact h.symm
    · rename_i hn
      rw [Array.getElem?_eq_none (by omega)]
  · rfl
/-- A cell is written that then holds what it held: no block is another. -/
theorem back1 {W : World} {g i t : Nat} {cs : Array Value} {u : Value} {row : Option Nat} (hb : W.heap[g]? = some (.cells cs t (0, 0))) (h : cs[i]? = some u) : W.grownBy (W.setCell ⟨g, i, none⟩ u) row := by
  have hg := grown_set W g i u
  refine ⟨hg.os, hg.tape, hg.output, hg.size, fun k hk _ => ?_⟩
  by_cases hkg : k = g
  · subst hkg
    rw [hb]
    exact blk_put hb i u (set_back h)
  · exact hg.block k hk (fun e => hkg (Option.some.inj e))
theorem back2 {W : World} {g i t : Nat} {cs : Array Value} {u x : Value} {row : Option Nat} (hb : W.heap[g]? = some (.cells cs t (0, 0))) (h : cs[i]? = some u) : W.grownBy ((W.setCell ⟨g, i, none⟩ x).setCell ⟨g, i, none⟩ u) row := by
  have hg := World.grownBy.trans (grown_set W g i x) (grown_set _ g i u)
  refine ⟨hg.os, hg.tape, hg.output, hg.size, fun k hk _ => ?_⟩
  by_cases hkg : k = g
  · subst hkg
    rw [hb]
    exact blk_put (blk_set hb i x) i u (set_back2 h)
  · exact hg.block k hk (fun e => hkg (Option.some.inj e))
theorem blk_cell' {W : World} {g i t : Nat} {cs : Array Value} {u : Value} (hb : W.heap[g]? = some (.cells cs t (0, 0))) (h : cs[i]? = some u) : W.cell? ⟨g, i, none⟩ = some u := (blk_cell hb i).trans h
theorem put1 {u : Int} (h0 : 0 ≤ u) (h1 : u < 256) : Wi.putE 1 u = 0 := by
  unfold Wi.putE Wi.lim
  rw [if_pos rfl, if_neg (by decide), if_neg (by omega)]
theorem put4 {u : Int} (h0 : 0 ≤ u) (h1 : u < 4294967296) : Wi.putE 4 u = 0 := by
  unfold Wi.putE Wi.lim
  rw [if_neg (show ¬ (4 : Int) = 1 by decide), if_neg (show ¬ (4 : Int) = 2 by decide), if_pos rfl, if_neg (by decide), if_neg (by omega)]
def ownB (x : Int) : Int := if x = -1 then 255 else x
/-- A new block is written, then the bytes, then a cell is given back what it held. -/
theorem owner_grown {W W1 W2 W3 W4 : World} {nb qb : Nat} (h0 : W.grownBy W1 (some qb)) (h1 : W1.grownBy W2 (some nb)) (h2 : W2.grownBy W3 (some qb)) (h3 : W3.grownBy W4 (some qb)) (hn : W.heap.size ≤ nb) : W.grownBy W4 (some qb) := by
  have h23 := World.grownBy.trans h2 h3
  refine ⟨h23.os.trans (h1.os.trans h0.os), h23.tape.trans (h1.tape.trans h0.tape), h23.output.trans (h1.output.trans h0.output), Nat.le_trans h0.size (Nat.le_trans h1.size h23.size), fun k hk hr => ?_⟩
  have k1 : k < W1.heap.size := Nat.lt_of_lt_of_le hk h0.size
  have k2 : k < W2.heap.size := Nat.lt_of_lt_of_le k1 h1.size
  exact (h23.block k k2 hr).trans ((h1.block k k1 (fun e => by have := Option.some.inj e; omega)).trans (h0.block k hk hr))
set_option maxHeartbeats 16000000 in
set_option maxRecDepth 100000 in
theorem owner_any {w0 W : World} {qb : Nat} {v : Value} {xs : List Int} (h : EB w0 W qb v xs) (hl : xs.length ≤ 900) {gw off : Nat} {cs : Array Value} (hb : W.heap[gw]? = some (.cells cs 46 (0, 0))) (hle : w0.heap.size ≤ gw) {x : Int} (hc : cs[off]? = some (.int .i64 x)) (hx : -1 ≤ x ∧ x < 255) :
    Calls Tryd.prog 50 #[.func (.func 23) #[] #[.pointer (some ⟨qb, 0, none⟩)], .pointer (some ⟨gw, off, none⟩)] W fun e W' => e = .returned (.tuple #[]) ∧ W.grownBy W' (some qb) ∧ ∃ v', EB w0 W' qb v' (xs ++ Wi.putB 1 (ownB x)) := by
  have H1 := And.intro (h.far (below_alloc (Below.refl W.heap.size W) (.cells #[.int .i64 x] 3))) (And.intro (blk_new W (.cells #[.int .i64 x] 3)) (blk_alloc hb (.cells #[.int .i64 x] 3)))
  have hg0 : W.grownBy (W.alloc (.cells #[.int .i64 x] 3)) (some qb) := by
    have hb := below_alloc (Below.refl W.heap.size W) (.cells #[.int .i64 x] 3)
    exact ⟨hb.os, hb.tape, hb.output, hb.size, fun k hk _ => hb.block k hk⟩
  have hqlt : qb ≠ W.heap.size := by have := blk_lt h.bl; omega
  have hgl : gw ≠ W.heap.size := by have := blk_lt hb; omega
  have hqg : gw ≠ qb := fun e => by subst e; have := h.bl.symm.trans hb; simp at this
  have hvl : w0.heap.size ≤ W.heap.size := h.ob.bel.size
  have hw0 := blk_cell' hb hc
  clear h
  go_enter Tryd.func50, Tryd.ntmps50
  go_upto_region 1 with (first | fail)
  clear hb hw0
  revert H1 hg0
  generalize (W.alloc (.cells #[.int .i64 x] 3)) = W1
  obtain ⟨nb, hnb⟩ : ∃ nb, W.heap.size = nb := ⟨_, rfl⟩
  rw [hnb] at hqlt hgl hvl ⊢
  have hnn : W.heap.size ≤ nb := by omega
  clear hnb
  intro H1 hg0
  obtain ⟨H1, hn1, hb1⟩ := H1
  have hn0 := (blk_cell hn1 0).trans (show _ = some (.int .i64 x) from rfl)
  have hnf := blk_frozen hn1 0
  have HG0 := Aside0.mk hg0
  clear hg0
  obtain ⟨hx0, hx1⟩ := hx
  by_cases hxx : x = -1
  · subst hxx
    have HOWN : Aside0 (ownB (-1) = 255) := ⟨by decide⟩
    have H2 := And.intro (H1.kept hn1 (by decide) (by decide) hvl (grown_set W1 nb 0 (.int .i64 255))) (And.intro (blk_put hn1 0 (.int .i64 255) rfl) (And.intro (blk_far (p := ⟨nb, 0, none⟩) hb1 hgl (.int .i64 255)) (grown_set W1 nb 0 (.int .i64 255))))
    go_upto_region 3 with (first | fail)
    clear hn0 hnf H1 hb1
    revert H2
    generalize hW2 : (W1.setCell ⟨nb, 0, none⟩ (.int .i64 255)) = W2
    intro H2
    obtain ⟨H2, hn2, hb2, hg2⟩ := H2
    have hn0 := (blk_cell hn2 0).trans (show _ = some (.int .i64 255) from rfl)
    have HE := Aside0.mk (enc1_any H2 hl (n := 1) (u := 255) (put1 (by decide) (by decide)) hn0)
    have HG2 := Aside0.mk (And.intro hn1 hg2)
    have HB2 := Aside0.mk hb2
    have HN2 := Aside0.mk hn2
    clear H2 hn2 hb2 hg2 hn1 hW2
    go_upto_region 4 with (first | (go_at_call 23; (with_reducible refine HE.out.mono ?_); rintro e w2 ⟨rfl, hg, v', hE⟩; have hb3 := blk_grown HB2.out hg (fun e => hqg (Option.some.inj e)); have hn3 := blk_grown HN2.out hg (fun e => hqlt (Option.some.inj e).symm); have e2 := (blk_cell hn3 0).trans (show _ = some (.int .i64 255) from rfl); have HG := Aside0.mk hg; have HE2 := Aside0.mk hE; clear hg hE hn0))
    have gf := blk_frozen hb3 off
    have gf2 := blk_frozen (blk_set hb3 off (.int .i64 255)) off
    have e3 := (blk_cell (blk_far (p := ⟨gw, off, none⟩) hn3 (fun e => hgl e.symm) (.int .i64 255)) 0).trans (show _ = some (.int .i64 255) from rfl)
    have gc := blk_cell' hb3 hc
    have hoff : off < cs.size := (Array.getElem?_eq_some_iff.1 hc).1
    have gc2 : (w2.setCell ⟨gw, off, none⟩ (.int .i64 255)).cell? ⟨gw, off, none⟩ = some (.int .i64 255) := (blk_cell (blk_set hb3 off (.int .i64 255)) off).trans (by rw [Array.getElem?_setIfInBounds]; simp [hoff])
    clear hoff
    have HB3 := Aside0.mk hb3
    clear hb3 hn3
    go_wp2
    go_end0
    refine ⟨rfl, ?_, v', ?_⟩
    · exact owner_grown HG0.out HG2.out.2 HG.out (back2 HB3.out hc) hnn
    · rw [HOWN.out]; exact (HE2.out.kept HB3.out (by decide) (by decide) hle (grown_set _ gw off _)).kept (blk_set HB3.out off _) (by decide) (by decide) hle (grown_set _ gw off _)
  · have HOWN : Aside0 (ownB x = x) := ⟨by unfold ownB; rw [if_neg hxx]⟩
    have d1 : decide (x = -1) = false := decide_eq_false hxx
    have d1b : (x == -1) = false := beq_eq_false_iff_ne.mpr hxx
    have d2 : decide (x = 255) = false := decide_eq_false (by omega)
    have d2b : (x == 255) = false := beq_eq_false_iff_ne.mpr (by omega)
    have HE := Aside0.mk (enc1_any H1 hl (n := 1) (u := x) (put1 (by omega) (by omega)) hn0)
    have HB1 := Aside0.mk hb1
    have HN1 := Aside0.mk hn1
    clear H1 hb1 hn1 hnf
    go_upto_region 4 with (first | (go_at_call 23; (with_reducible refine HE.out.mono ?_); rintro e w2 ⟨rfl, hg, v', hE⟩; have hb3 := blk_grown HB1.out hg (fun e => hqg (Option.some.inj e)); have hn3 := blk_grown HN1.out hg (fun e => hqlt (Option.some.inj e).symm); have e2 := (blk_cell hn3 0).trans (show _ = some (.int .i64 x) from rfl); have HG := Aside0.mk hg; have HE2 := Aside0.mk hE; clear hg hE hn0))
    have gf := blk_frozen hb3 off
    have gc := blk_cell' hb3 hc
    have e3 := (blk_cell (blk_far (p := ⟨gw, off, none⟩) hn3 (fun e => hgl e.symm) (.int .i64 x)) 0).trans (show _ = some (.int .i64 x) from rfl)
    have HB3 := Aside0.mk hb3
    clear hb3 hn3
    go_wp2
    go_end0
    exact ⟨rfl, World.grownBy.trans HG0.out (World.grownBy.trans HG.out (back1 HB3.out hc)), v', by rw [HOWN.out]; exact HE2.out.kept HB3.out (by decide) (by decide) hle (grown_set _ gw off _)⟩
end Go.Proofs.YtdebbanloopcgaaDoor.Tb

/- Layer 5 (table): all, as Encode calls it. -/
set_option linter.unusedVariables false
set_option linter.unusedSimpArgs false
namespace Go.Proofs.YtdebbanloopcgaaDoor.Tb
open Go Go.RowKit Go.Proofs.YtdebbanloopcgaaDoorW.PrintWords Go.Proofs.YtdebbanloopcgaaDoorW.PrintLast Go.Proofs.YtdebbanloopcgaaDoorW.PrintMore Go.Proofs.YtdebbanloopcgaaDoor.Cz Go.Proofs.YtdebbanloopcgaaDoor.PTableWrites Go.Proofs.YtdebbanloopcgaaDoor.Cf
attribute [local go_sem] max2_int min2_int max_two min_two max_three min_three max_four min_four Tryd.underlying26 Tryd.underlying46 Tryd.underlying57
/-! The bytes of a config. -/
def encW (x : S46) : List Int := Wi.putB 1 (ownB x.f0) ++ (Wi.putB 1 x.f1 ++ Wi.putB 1 x.f2)
def k1 (x : S57) : List Int := [x.f0, x.f1, x.f2, x.f3]
def k2 (x : S57) : List Int := [x.f5, x.f6, x.f7]
def encK (x : S57) : List Int := (k1 x).flatMap (Wi.putB 1) ++ (Wi.putB 4 x.f4 ++ ((k2 x).flatMap (Wi.putB 1) ++ (Wi.putB 4 x.f8 ++ (Wi.putB 1 x.f9 ++ Wi.putB 1 x.f10))))
def encC (C : Cfg) : List Int := Wi.putB 1 C.p ++ (Wi.putB 1 C.f ++ (Wi.putB 1 C.ws.length ++ (C.ws.flatMap encW ++ (Wi.putB 1 C.ks.length ++ (C.ks.flatMap encK ++ (Wi.putB 1 C.ac.length ++ C.ac.flatMap (Wi.putB 1)))))))
/-- What may be written. -/
structure RG (C : Cfg) : Prop where
  p : 0 ≤ C.p ∧ C.p < 256
  f : 0 ≤ C.f ∧ C.f < 256
  w : C.ws.length ≤ 8
  k : C.ks.length ≤ 6
  a : C.ac.length ≤ 4
  ws : ∀ x ∈ C.ws, (-1 ≤ x.f0 ∧ x.f0 < 255) ∧ (0 ≤ x.f1 ∧ x.f1 < 256) ∧ (0 ≤ x.f2 ∧ x.f2 < 256)
  ks : ∀ x ∈ C.ks, (∀ u ∈ k1 x, 0 ≤ u ∧ u < 256) ∧ (0 ≤ x.f4 ∧ x.f4 < 4294967296) ∧ (∀ u ∈ k2 x, 0 ≤ u ∧ u < 256) ∧ (0 ≤ x.f8 ∧ x.f8 < 4294967296) ∧ (0 ≤ x.f9 ∧ x.f9 < 256) ∧ (0 ≤ x.f10 ∧ x.f10 < 256)
  ac : ∀ u ∈ C.ac, 0 ≤ u ∧ u < 256
/-- all's memory. -/
structure AB (w0 W : World) (cb qb : Nat) (C : Cfg) (v2 v3 v4 v : Value) (xs : List Int) : Prop where
  eb : EB w0 W qb v xs
  bk : W.heap[cb]? = some (.cells #[.int .i64 C.p, .int .i64 C.f, v2, v3, v4] 26 (0, 0))
  co : CO w0 W C.ws C.ks C.ac v2 v3 v4
  hc : w0.heap.size ≤ cb
section
variable {w0 W W' : World} {cb qb : Nat} {C : Cfg} {v2 v3 v4 v v' : Value} {xs ys : List Int}
theorem AB.ne (h : AB w0 W cb qb C v2 v3 v4 v xs) : cb ≠ qb := fun e => by
  subst e
  have := h.bk.symm.trans h.eb.bl
  simp at this
theorem AB.step (h : AB w0 W cb qb C v2 v3 v4 v xs) (hg : W.grownBy W' (some qb)) (he : EB w0 W' qb v' ys) : AB w0 W' cb qb C v2 v3 v4 v' ys :=
  ⟨he, blk_grown h.bk hg (fun e => h.ne (Option.some.inj e)), ⟨h.co.o2.kept46 h.eb.bl h.eb.hq (by decide) hg, h.co.o3.kept57 h.eb.bl h.eb.hq (by decide) hg, h.co.o4.kept3 h.eb.bl h.eb.hq (by decide) hg⟩, h.hc⟩
theorem AB.far (h : AB w0 W cb qb C v2 v3 v4 v xs) (hb : Below W.heap.size W W') : AB w0 W' cb qb C v2 v3 v4 v xs := ⟨h.eb.far hb, blk_below h.bk hb, h.co.far hb, h.hc⟩
theorem AB.bel (h : AB w0 W cb qb C v2 v3 v4 v xs) : Below w0.heap.size w0 W := h.eb.ob.bel
end
theorem row_shape {α : Type} {d : Kd α} {e : TypeId} {w0 W : World} {A : Option Addr} {n c : Nat} {xs : List α} (h : OK d e w0 W (.slice A n c) xs) {ad : Addr} (hA : A = some ad) : w0.heap.size ≤ ad.block ∧ ∃ cs, W.heap[ad.block]? = some (.cells cs e (0, 0)) := by
  subst hA
  obtain ⟨inner, ho⟩ := Kd.R_own h.r
  exact ⟨h.r.1 ad.block rfl, own_typed ho ad.block rfl⟩
theorem cell_of {W : World} {a : Addr} {cs : Array Value} {t : TypeId} {u : Value} (hb : W.heap[a.block]? = some (.cells cs t (0, 0))) (hc : W.cell? a = some u) : a.spot = none ∧ cs[a.off]? = some u := by
  unfold World.cell? at hc
  rw [hb] at hc
  simp only [] at hc
  cases hs : a.spot with
  | none => rw [hs] at hc; exact ⟨rfl, by simpa using hc⟩
  | some s => rw [hs] at hc; simp at hc
theorem owner_at {w0 W : World} {qb : Nat} {v : Value} {xs : List Int} (h : EB w0 W qb v xs) (hl : xs.length ≤ 900) {ad : Addr} {cs : Array Value} (hb : W.heap[ad.block]? = some (.cells cs 46 (0, 0))) (hle : w0.heap.size ≤ ad.block) {x : Int} (hc : W.cell? ad = some (.int .i64 x)) (hx : -1 ≤ x ∧ x < 255) :
    Calls Tryd.prog 50 #[.func (.func 23) #[] #[.pointer (some ⟨qb, 0, none⟩)], .pointer (some ad)] W fun e W' => e = .returned (.tuple #[]) ∧ W.grownBy W' (some qb) ∧ ∃ v', EB w0 W' qb v' (xs ++ Wi.putB 1 (ownB x)) := by
  obtain ⟨hs, hcc⟩ := cell_of hb hc
  obtain ⟨b, off, s⟩ := ad
  simp only [] at hs hcc hb hle
  subst hs
  exact owner_any h hl hb hle hcc hx
theorem putB_len1 (v : Int) : (Wi.putB 1 v).length = 1 := rfl
theorem putB_len4 (v : Int) : (Wi.putB 4 v).length = 4 := rfl
theorem flat1_len : ∀ l : List Int, (l.flatMap (Wi.putB 1)).length = l.length
  | [] => rfl
  | x :: t => by rw [List.flatMap_cons, List.length_append, flat1_len t, putB_len1, List.length_cons]; omega
theorem take_flat {α : Type} (g : α → List Int) {l : List α} {j : Nat} (h : j < l.length) : (l.take (j + 1)).flatMap g = (l.take j).flatMap g ++ g l[j] := by
  rw [List.take_succ_eq_append_getElem h, List.flatMap_append]
  simp
/-- A channel's cells. -/
def KC (W : World) (a : Addr) (x : S57) : Prop := W.cell? a = some (.int .i64 x.f0) ∧ W.cell? ⟨a.block, a.off + 1, none⟩ = some (.int .i64 x.f1) ∧ W.cell? ⟨a.block, a.off + 2, none⟩ = some (.int .i64 x.f2) ∧ W.cell? ⟨a.block, a.off + 3, none⟩ = some (.int .i64 x.f3) ∧ W.cell? ⟨a.block, a.off + 4, none⟩ = some (.int .i64 x.f4) ∧ W.cell? ⟨a.block, a.off + 5, none⟩ = some (.int .i64 x.f5) ∧ W.cell? ⟨a.block, a.off + 6, none⟩ = some (.int .i64 x.f6) ∧ W.cell? ⟨a.block, a.off + 7, none⟩ = some (.int .i64 x.f7) ∧ W.cell? ⟨a.block, a.off + 8, none⟩ = some (.int .i64 x.f8) ∧ W.cell? ⟨a.block, a.off + 9, none⟩ = some (.int .i64 x.f9) ∧ W.cell? ⟨a.block, a.off + 10, none⟩ = some (.int .i64 x.f10)
theorem AB.win {w0 W : World} {cb qb : Nat} {C : Cfg} {ad : Addr} {d2 : Nat} {v3 v4 v : Value} {xs : List Int} (h : AB w0 W cb qb C (.slice (some ad) C.ws.length d2) v3 v4 v xs) {j : Nat} (hj : j < C.ws.length) :
    W.cell? (ad.add (j * 3)) = some (.int .i64 C.ws[j].f0) ∧ W.cell? ⟨(ad.add (j * 3)).block, (ad.add (j * 3)).off + 1, none⟩ = some (.int .i64 C.ws[j].f1) ∧ W.cell? ⟨(ad.add (j * 3)).block, (ad.add (j * 3)).off + 2, none⟩ = some (.int .i64 C.ws[j].f2) := by
  have hcs := at_T46 h.co.o2.ci.1 (j : Int) (by omega) (by omega)
  rw [show rd_T46 C.ws (j : Int) = C.ws[j] by simp [rd_T46, hj], Int.toNat_natCast] at hcs
  obtain ⟨ad', he, hh⟩ := hcs
  cases he
  exact hh
theorem AB.chn {w0 W : World} {cb qb : Nat} {C : Cfg} {ad : Addr} {d3 : Nat} {v2 v4 v : Value} {xs : List Int} (h : AB w0 W cb qb C v2 (.slice (some ad) C.ks.length d3) v4 v xs) {j : Nat} (hj : j < C.ks.length) : KC W (ad.add (j * 11)) C.ks[j] := by
  have hcs := at_T57 h.co.o3.ci.1 (j : Int) (by omega) (by omega)
  rw [show rd_T57 C.ks (j : Int) = C.ks[j] by simp [rd_T57, hj], Int.toNat_natCast] at hcs
  obtain ⟨ad', he, hh⟩ := hcs
  cases he
  exact hh
theorem AB.act {w0 W : World} {cb qb : Nat} {C : Cfg} {ad : Addr} {d4 : Nat} {v2 v3 v : Value} {xs : List Int} (h : AB w0 W cb qb C v2 v3 (.slice (some ad) C.ac.length d4) v xs) {j : Nat} (hj : j < C.ac.length) : W.cell? (ad.add j) = some (.int .i64 C.ac[j]) := by
  obtain ⟨ad', he, hh⟩ := Kd.at_int h.co.o4.ci.1 (j : Int) (by omega) (by omega)
  cases he
  rw [show rd C.ac (j : Int) = C.ac[j] by simp [rd, hj], Int.toNat_natCast] at hh
  exact hh
set_option maxHeartbeats 16000000 in
set_option maxRecDepth 100000 in
theorem all_enc {w0 W : World} {cb qb : Nat} {C : Cfg} {v2 v3 v4 v : Value} {xs : List Int} (h : AB w0 W cb qb C v2 v3 v4 v xs) (hr : RG C) (hl : xs.length ≤ 20) :
    Calls Tryd.prog 22 #[.pointer (some ⟨cb, 0, none⟩), .func (.func 23) #[] #[.pointer (some ⟨qb, 0, none⟩)]] W fun e W' => e = .returned (.tuple #[]) ∧ ∃ v', AB w0 W' cb qb C v2 v3 v4 v' (xs ++ encC C) := by
  obtain ⟨B2, d2, rfl, _, _⟩ := h.co.o2.reads
  obtain ⟨B3, d3, rfl, _, _⟩ := h.co.o3.reads
  obtain ⟨B4, d4, rfl, _, _⟩ := h.co.o4.reads
  have H := Aside0.mk h
  have HR := Aside0.mk hr
  have hw := hr.w
  have hk := hr.k
  have ha := hr.a
  obtain ⟨zs, hzs⟩ : ∃ zs, xs ++ encC C = zs := ⟨_, rfl⟩
  rw [hzs]
  have HZ := Aside0.mk hzs
  clear h hr hzs
  have c0 := (blk_cell H.out.bk 0).trans (show _ = some (.int .i64 C.p) from rfl)
  have c1 := (blk_cell H.out.bk 1).trans (show _ = some (.int .i64 C.f) from rfl)
  have c2 := (blk_cell H.out.bk 2).trans (show _ = some (.slice B2 C.ws.length d2) from rfl)
  have c3 := (blk_cell H.out.bk 3).trans (show _ = some (.slice B3 C.ks.length d3) from rfl)
  have c4 := (blk_cell H.out.bk 4).trans (show _ = some (.slice B4 C.ac.length d4) from rfl)
  go_enter Tryd.func22, Tryd.ntmps22
  go_upto_region 1 with (first | (go_at_call 23; (with_reducible refine (enc1_any H.out.eb (by omega) (n := 1) (u := C.p) (put1 HR.out.p.1 HR.out.p.2) c0).mono ?_); rintro e w1 ⟨rfl, hg, v1, hE⟩; obtain ⟨x1, hy⟩ : ∃ y, xs ++ Wi.putB 1 (C.p) = y := ⟨_, rfl⟩; rw [hy] at hE; have H1 := Aside0.mk (H.out.step hg hE); have hl1 : x1.length = xs.length + 1 := (by rw [← hy, List.length_append, putB_len1]); have X1 := Aside0.mk hy; clear hg hE hy c0 c1 c2 c3 c4))
  have c0 := (blk_cell H1.out.bk 0).trans (show _ = some (.int .i64 C.p) from rfl)
  have c1 := (blk_cell H1.out.bk 1).trans (show _ = some (.int .i64 C.f) from rfl)
  have c2 := (blk_cell H1.out.bk 2).trans (show _ = some (.slice B2 C.ws.length d2) from rfl)
  have c3 := (blk_cell H1.out.bk 3).trans (show _ = some (.slice B3 C.ks.length d3) from rfl)
  have c4 := (blk_cell H1.out.bk 4).trans (show _ = some (.slice B4 C.ac.length d4) from rfl)
  go_upto_region 2 with (first | (go_at_call 23; (with_reducible refine (enc1_any H1.out.eb (by omega) (n := 1) (u := C.f) (put1 HR.out.f.1 HR.out.f.2) c1).mono ?_); rintro e w2 ⟨rfl, hg, v2, hE⟩; obtain ⟨x2, hy⟩ : ∃ y, x1 ++ Wi.putB 1 (C.f) = y := ⟨_, rfl⟩; rw [hy] at hE; have H2 := Aside0.mk (H1.out.step hg hE); have hl2 : x2.length = x1.length + 1 := (by rw [← hy, List.length_append, putB_len1]); have X2 := Aside0.mk hy; clear hg hE hy c0 c1 c2 c3 c4))
  have c0 := (blk_cell H2.out.bk 0).trans (show _ = some (.int .i64 C.p) from rfl)
  have c1 := (blk_cell H2.out.bk 1).trans (show _ = some (.int .i64 C.f) from rfl)
  have c2 := (blk_cell H2.out.bk 2).trans (show _ = some (.slice B2 C.ws.length d2) from rfl)
  have c3 := (blk_cell H2.out.bk 3).trans (show _ = some (.slice B3 C.ks.length d3) from rfl)
  have c4 := (blk_cell H2.out.bk 4).trans (show _ = some (.slice B4 C.ac.length d4) from rfl)
  go_upto_region 3 with (first | (go_at_call 49; (with_reducible refine (cnt46_any H2.out.eb (by omega) (n := C.ws.length) (by omega) c2 H2.out.ne).mono ?_); rintro e w3 ⟨rfl, hg, v3, hE⟩; obtain ⟨x3, hy⟩ : ∃ y, x2 ++ Wi.putB 1 ((C.ws.length : Nat) : Int) = y := ⟨_, rfl⟩; rw [hy] at hE; have H3 := Aside0.mk (H2.out.step hg hE); have hl3 : x3.length = x2.length + 1 := (by rw [← hy, List.length_append, putB_len1]); have X3 := Aside0.mk hy; clear hg hE hy c0 c1 c2 c3 c4))
  have c0 := (blk_cell H3.out.bk 0).trans (show _ = some (.int .i64 C.p) from rfl)
  have c1 := (blk_cell H3.out.bk 1).trans (show _ = some (.int .i64 C.f) from rfl)
  have c2 := (blk_cell H3.out.bk 2).trans (show _ = some (.slice B2 C.ws.length d2) from rfl)
  have c3 := (blk_cell H3.out.bk 3).trans (show _ = some (.slice B3 C.ks.length d3) from rfl)
  have c4 := (blk_cell H3.out.bk 4).trans (show _ = some (.slice B4 C.ac.length d4) from rfl)
  clear H H1 H2
  go_wp2
  go_loopw [33] (fun v46 wr => ∃ j : Nat, v46 = .int .i64 j ∧ j ≤ C.ws.length ∧ Aside0 (∃ (v : Value) (ys : List Int), AB w0 wr cb qb C (.slice B2 C.ws.length d2) (.slice B3 C.ks.length d3) (.slice B4 C.ac.length d4) v ys ∧ ys = x3 ++ (C.ws.take j).flatMap encW ∧ ys.length = x3.length + 3 * j)) (fun v46 _ => C.ws.length - (intOf v46).toNat)
  case atStart => exact ⟨0, rfl, by omega, ⟨⟨_, _, H3.out, by simp, by omega⟩⟩⟩
  case round =>
    clear H3 c0 c1 c2 c3 c4
    rename_i gv46
    obtain ⟨j, rfl, hj, HJ⟩ := hrel
    obtain ⟨v5, x5, hA, hy, hl5⟩ := HJ.out
    have H5 := Aside0.mk hA
    have X5 := Aside0.mk hy
    clear hA hy HJ
    have c0 := (blk_cell H5.out.bk 0).trans (show _ = some (.int .i64 C.p) from rfl)
    have c1 := (blk_cell H5.out.bk 1).trans (show _ = some (.int .i64 C.f) from rfl)
    have c2 := (blk_cell H5.out.bk 2).trans (show _ = some (.slice B2 C.ws.length d2) from rfl)
    have c3 := (blk_cell H5.out.bk 3).trans (show _ = some (.slice B3 C.ks.length d3) from rfl)
    have c4 := (blk_cell H5.out.bk 4).trans (show _ = some (.slice B4 C.ac.length d4) from rfl)
    by_cases hlt : j < C.ws.length
    · have d1 : decide ((j : Int) < (C.ws.length : Int)) = true := decide_eq_true (by omega)
      have d1n : decide (j < C.ws.length) = true := decide_eq_true hlt
      have hj0 : 0 ≤ (j : Int) := by omega
      have hj1 : (j : Int) < C.ws.length := by omega
      obtain ⟨ad, hB, _⟩ := at_T46 H5.out.co.o2.ci.1 (j : Int) hj0 hj1
      subst hB
      obtain ⟨e0, e1, e2⟩ := H5.out.win hlt
      have hwr := HR.out.ws _ (List.getElem_mem hlt)
      obtain ⟨hgb, cs, hgc⟩ := row_shape H5.out.co.o2 rfl
      have hab : (ad.add (j * 3)).block = ad.block := by unfold Addr.add; split <;> rfl
      have HGB := Aside0.mk (show w0.heap.size ≤ (ad.add (j * 3)).block by rw [hab]; exact hgb)
      have HGC := Aside0.mk (show wr.heap[(ad.add (j * 3)).block]? = some (.cells cs 46 (0, 0)) by rw [hab]; exact hgc)
      clear hgb hgc hab
      have HWR := Aside0.mk hwr
      clear hwr
      go_upto_region 8 with (first | (go_at_call 50; (with_reducible refine (owner_at H5.out.eb (by omega) HGC.out HGB.out e0 HWR.out.1).mono ?_); rintro e w6 ⟨rfl, hg, v6, hE⟩; obtain ⟨x6, hy⟩ : ∃ y, x5 ++ Wi.putB 1 (ownB C.ws[j].f0) = y := ⟨_, rfl⟩; rw [hy] at hE; have H6 := Aside0.mk (H5.out.step hg hE); have hl6 : x6.length = x5.length + 1 := (by rw [← hy, List.length_append, putB_len1]); have X6 := Aside0.mk hy; clear hg hE hy c0 c1 c2 c3 c4 e0 e1 e2; obtain ⟨e0, e1, e2⟩ := H6.out.win hlt))
      go_upto_region 9 with (first | (go_at_call 23; (with_reducible refine (enc1_any H6.out.eb (by omega) (n := 1) (u := C.ws[j].f1) (put1 HWR.out.2.1.1 HWR.out.2.1.2) e1).mono ?_); rintro e w7 ⟨rfl, hg, v7, hE⟩; obtain ⟨x7, hy⟩ : ∃ y, x6 ++ Wi.putB 1 (C.ws[j].f1) = y := ⟨_, rfl⟩; rw [hy] at hE; have H7 := Aside0.mk (H6.out.step hg hE); have hl7 : x7.length = x6.length + 1 := (by rw [← hy, List.length_append, putB_len1]); have X7 := Aside0.mk hy; clear hg hE hy e0 e1 e2; obtain ⟨e0, e1, e2⟩ := H7.out.win hlt))
      go_wp2_with (first | (go_at_call 23; (with_reducible refine (enc1_any H7.out.eb (by omega) (n := 1) (u := C.ws[j].f2) (put1 HWR.out.2.2.1 HWR.out.2.2.2) e2).mono ?_); rintro e w8 ⟨rfl, hg, v8, hE⟩; obtain ⟨x8, hy⟩ : ∃ y, x7 ++ Wi.putB 1 (C.ws[j].f2) = y := ⟨_, rfl⟩; rw [hy] at hE; have H8 := Aside0.mk (H7.out.step hg hE); have hl8 : x8.length = x7.length + 1 := (by rw [← hy, List.length_append, putB_len1]); have X8 := Aside0.mk hy; clear hg hE hy e0 e1 e2))
      have HEQ : Aside0 (x8 = x3 ++ (C.ws.take (j + 1)).flatMap encW) := ⟨by rw [← X8.out, ← X7.out, ← X6.out, X5.out, take_flat encW hlt]; simp [encW]⟩
      go_roundw
      case rel => exact ⟨j + 1, by go_num, by omega, ⟨⟨_, _, H8.out, HEQ.out, by omega⟩⟩⟩
      case measure => simp [intOf]; omega
    · have d1 : decide ((j : Int) < (C.ws.length : Int)) = false := decide_eq_false (by omega)
      have d1n : decide (j < C.ws.length) = false := decide_eq_false hlt
      obtain rfl : j = C.ws.length := by omega
      rw [List.take_length] at X5
      go_upto_region 12 with (first | (go_at_call 51; (with_reducible refine (cnt57_any H5.out.eb (by omega) (n := C.ks.length) (by omega) c3 H5.out.ne).mono ?_); rintro e w10 ⟨rfl, hg, v10, hE⟩; obtain ⟨x10, hy⟩ : ∃ y, x5 ++ Wi.putB 1 ((C.ks.length : Nat) : Int) = y := ⟨_, rfl⟩; rw [hy] at hE; have H10 := Aside0.mk (H5.out.step hg hE); have hl10 : x10.length = x5.length + 1 := (by rw [← hy, List.length_append, putB_len1]); have X10 := Aside0.mk hy; clear hg hE hy c0 c1 c2 c3 c4))
      have c0 := (blk_cell H10.out.bk 0).trans (show _ = some (.int .i64 C.p) from rfl)
      have c1 := (blk_cell H10.out.bk 1).trans (show _ = some (.int .i64 C.f) from rfl)
      have c2 := (blk_cell H10.out.bk 2).trans (show _ = some (.slice B2 C.ws.length d2) from rfl)
      have c3 := (blk_cell H10.out.bk 3).trans (show _ = some (.slice B3 C.ks.length d3) from rfl)
      have c4 := (blk_cell H10.out.bk 4).trans (show _ = some (.slice B4 C.ac.length d4) from rfl)
      clear H5
      go_wp2
      go_loopw [66] (fun v66 wr => ∃ j : Nat, v66 = .int .i64 j ∧ j ≤ C.ks.length ∧ Aside0 (∃ (v : Value) (ys : List Int), AB w0 wr cb qb C (.slice B2 C.ws.length d2) (.slice B3 C.ks.length d3) (.slice B4 C.ac.length d4) v ys ∧ ys = x10 ++ (C.ks.take j).flatMap encK ∧ ys.length = x10.length + 17 * j)) (fun v66 _ => C.ks.length - (intOf v66).toNat)
      case atStart => exact ⟨0, rfl, by omega, ⟨⟨_, _, H10.out, by simp, by omega⟩⟩⟩
      case round =>
        clear H10 c0 c1 c2 c3 c4 d1 d1n hlt hj
        rename_i wr2 gv66
        obtain ⟨j, rfl, hj, HJ⟩ := hrel
        obtain ⟨v12, x12, hA, hy, hl12⟩ := HJ.out
        have H12 := Aside0.mk hA
        have X12 := Aside0.mk hy
        clear hA hy HJ
        have c0 := (blk_cell H12.out.bk 0).trans (show _ = some (.int .i64 C.p) from rfl)
        have c1 := (blk_cell H12.out.bk 1).trans (show _ = some (.int .i64 C.f) from rfl)
        have c2 := (blk_cell H12.out.bk 2).trans (show _ = some (.slice B2 C.ws.length d2) from rfl)
        have c3 := (blk_cell H12.out.bk 3).trans (show _ = some (.slice B3 C.ks.length d3) from rfl)
        have c4 := (blk_cell H12.out.bk 4).trans (show _ = some (.slice B4 C.ac.length d4) from rfl)
        by_cases hlt : j < C.ks.length
        · have d1 : decide ((j : Int) < (C.ks.length : Int)) = true := decide_eq_true (by omega)
          have d1n : decide (j < C.ks.length) = true := decide_eq_true hlt
          have hj0 : 0 ≤ (j : Int) := by omega
          have hj1 : (j : Int) < C.ks.length := by omega
          obtain ⟨ad, hB, _⟩ := at_T57 H12.out.co.o3.ci.1 (j : Int) hj0 hj1
          subst hB
          have hkr := HR.out.ks _ (List.getElem_mem hlt)
          have htf := take_flat encK hlt
          have hch : ∀ (W : World) (v : Value) (ys : List Int), AB w0 W cb qb C (.slice B2 C.ws.length d2) (.slice (some ad) C.ks.length d3) (.slice B4 C.ac.length d4) v ys → KC W (ad.add (j * 11)) C.ks[j] := fun W v ys h => h.chn hlt
          generalize C.ks[j] = x at hkr htf hch
          have HKR := Aside0.mk hkr
          have HTF := Aside0.mk htf
          have HCH := Aside0.mk hch
          clear hkr htf hch
          go_upto_region 16 with (first | fail)
          go_region_held3 (fun _ => True) (first | trivial | go_keep) (first | fail)
          all_goals
            have HN := And.intro (H12.out.far (below_drew (below_alloc (Below.refl wr.heap.size wr) (.cells #[.pointer (some (ad.add (j * 11))), .pointer (some ⟨(ad.add (j * 11)).block, (ad.add (j * 11)).off + 1, none⟩), .pointer (some ⟨(ad.add (j * 11)).block, (ad.add (j * 11)).off + 2, none⟩), .pointer (some ⟨(ad.add (j * 11)).block, (ad.add (j * 11)).off + 3, none⟩)] 53)))) (blk_drew (blk_new wr (.cells #[.pointer (some (ad.add (j * 11))), .pointer (some ⟨(ad.add (j * 11)).block, (ad.add (j * 11)).off + 1, none⟩), .pointer (some ⟨(ad.add (j * 11)).block, (ad.add (j * 11)).off + 2, none⟩), .pointer (some ⟨(ad.add (j * 11)).block, (ad.add (j * 11)).off + 3, none⟩)] 53)))
            go_wp2
            revert HN
            generalize (wr.alloc (.cells #[.pointer (some (ad.add (j * 11))), .pointer (some ⟨(ad.add (j * 11)).block, (ad.add (j * 11)).off + 1, none⟩), .pointer (some ⟨(ad.add (j * 11)).block, (ad.add (j * 11)).off + 2, none⟩), .pointer (some ⟨(ad.add (j * 11)).block, (ad.add (j * 11)).off + 3, none⟩)] 53)).drew = wN
            generalize wr.heap.size = pb
            intro HN
            have HP0 : Aside0 (∃ (v : Value) (ys : List Int), AB w0 wN cb qb C (.slice B2 C.ws.length d2) (.slice (some ad) C.ks.length d3) (.slice B4 C.ac.length d4) v ys ∧ wN.heap[pb]? = some (.cells #[.pointer (some (ad.add (j * 11))), .pointer (some ⟨(ad.add (j * 11)).block, (ad.add (j * 11)).off + 1, none⟩), .pointer (some ⟨(ad.add (j * 11)).block, (ad.add (j * 11)).off + 2, none⟩), .pointer (some ⟨(ad.add (j * 11)).block, (ad.add (j * 11)).off + 3, none⟩)] 53 (0, 0)) ∧ ys = x12 ++ ((k1 x).take 0).flatMap (Wi.putB 1) ∧ ys.length = x12.length + 0) := ⟨⟨_, _, HN.1, HN.2, by simp, by omega⟩⟩
            clear HN
            go_loopw [89] (fun vS wr => ∃ i : Nat, vS = .int .i64 i ∧ i ≤ 4 ∧ Aside0 (∃ (v : Value) (ys : List Int), AB w0 wr cb qb C (.slice B2 C.ws.length d2) (.slice (some ad) C.ks.length d3) (.slice B4 C.ac.length d4) v ys ∧ wr.heap[pb]? = some (.cells #[.pointer (some (ad.add (j * 11))), .pointer (some ⟨(ad.add (j * 11)).block, (ad.add (j * 11)).off + 1, none⟩), .pointer (some ⟨(ad.add (j * 11)).block, (ad.add (j * 11)).off + 2, none⟩), .pointer (some ⟨(ad.add (j * 11)).block, (ad.add (j * 11)).off + 3, none⟩)] 53 (0, 0)) ∧ ys = x12 ++ ((k1 x).take i).flatMap (Wi.putB 1) ∧ ys.length = x12.length + i)) (fun vS _ => 4 - (intOf vS).toNat)
            case atStart => exact ⟨0, rfl, by omega, HP0⟩
            case round =>
              clear HP0
              obtain ⟨i, rfl, hi, HQ⟩ := hrel
              obtain ⟨v13, x13, hA, hPB, hy, hl13⟩ := HQ.out
              have H13 := Aside0.mk hA
              have X13 := Aside0.mk hy
              clear hA hy HQ
              obtain ⟨e0, e1, e2, e3, e4, e5, e6, e7, e8, e9, e10⟩ := HCH.out _ _ _ H13.out
              have hpq : pb ≠ qb := fun e => by subst e; have := H13.out.eb.bl.symm.trans hPB; simp at this
              by_cases hiL : i < 4
              · rcases i with _ | _ | _ | _ | i
                ·
                  have p0 := (blk_cell hPB 0).trans (show _ = some (.pointer (some (ad.add (j * 11)))) from rfl)
                  go_wp2_with (first | (go_at_call 23; (with_reducible refine (enc1_any H13.out.eb (by omega) (n := 1) (u := x.f0) (put1 (HKR.out.1 x.f0 (by simp [k1])).1 (HKR.out.1 x.f0 (by simp [k1])).2) e0).mono ?_); rintro e w14 ⟨rfl, hg, v14, hE⟩; obtain ⟨x14, hy⟩ : ∃ y, x13 ++ Wi.putB 1 (x.f0) = y := ⟨_, rfl⟩; rw [hy] at hE; have H14 := Aside0.mk (H13.out.step hg hE); have hl14 : x14.length = x13.length + 1 := (by rw [← hy, List.length_append, putB_len1]); have X14 := Aside0.mk hy; have HPB := Aside0.mk (blk_grown hPB hg (fun e => hpq (Option.some.inj e))); clear hg hE hy e0 e1 e2 e3 e4 e5 e6 e7 e8 e9 e10 p0))
                  go_roundw
                  case rel => exact ⟨1, by first | rfl | go_num, by omega, ⟨⟨_, _, H14.out, HPB.out, by rw [← X14.out, X13.out]; simp [k1], by omega⟩⟩⟩
                  case measure => simp [intOf]
                ·
                  have p0 := (blk_cell hPB 1).trans (show _ = some (.pointer (some ⟨(ad.add (j * 11)).block, (ad.add (j * 11)).off + 1, none⟩)) from rfl)
                  go_wp2_with (first | (go_at_call 23; (with_reducible refine (enc1_any H13.out.eb (by omega) (n := 1) (u := x.f1) (put1 (HKR.out.1 x.f1 (by simp [k1])).1 (HKR.out.1 x.f1 (by simp [k1])).2) e1).mono ?_); rintro e w14 ⟨rfl, hg, v14, hE⟩; obtain ⟨x14, hy⟩ : ∃ y, x13 ++ Wi.putB 1 (x.f1) = y := ⟨_, rfl⟩; rw [hy] at hE; have H14 := Aside0.mk (H13.out.step hg hE); have hl14 : x14.length = x13.length + 1 := (by rw [← hy, List.length_append, putB_len1]); have X14 := Aside0.mk hy; have HPB := Aside0.mk (blk_grown hPB hg (fun e => hpq (Option.some.inj e))); clear hg hE hy e0 e1 e2 e3 e4 e5 e6 e7 e8 e9 e10 p0))
                  go_roundw
                  case rel => exact ⟨2, by first | rfl | go_num, by omega, ⟨⟨_, _, H14.out, HPB.out, by rw [← X14.out, X13.out]; simp [k1], by omega⟩⟩⟩
                  case measure => simp [intOf]
                ·
                  have p0 := (blk_cell hPB 2).trans (show _ = some (.pointer (some ⟨(ad.add (j * 11)).block, (ad.add (j * 11)).off + 2, none⟩)) from rfl)
                  go_wp2_with (first | (go_at_call 23; (with_reducible refine (enc1_any H13.out.eb (by omega) (n := 1) (u := x.f2) (put1 (HKR.out.1 x.f2 (by simp [k1])).1 (HKR.out.1 x.f2 (by simp [k1])).2) e2).mono ?_); rintro e w14 ⟨rfl, hg, v14, hE⟩; obtain ⟨x14, hy⟩ : ∃ y, x13 ++ Wi.putB 1 (x.f2) = y := ⟨_, rfl⟩; rw [hy] at hE; have H14 := Aside0.mk (H13.out.step hg hE); have hl14 : x14.length = x13.length + 1 := (by rw [← hy, List.length_append, putB_len1]); have X14 := Aside0.mk hy; have HPB := Aside0.mk (blk_grown hPB hg (fun e => hpq (Option.some.inj e))); clear hg hE hy e0 e1 e2 e3 e4 e5 e6 e7 e8 e9 e10 p0))
                  go_roundw
                  case rel => exact ⟨3, by first | rfl | go_num, by omega, ⟨⟨_, _, H14.out, HPB.out, by rw [← X14.out, X13.out]; simp [k1], by omega⟩⟩⟩
                  case measure => simp [intOf]
                ·
                  have p0 := (blk_cell hPB 3).trans (show _ = some (.pointer (some ⟨(ad.add (j * 11)).block, (ad.add (j * 11)).off + 3, none⟩)) from rfl)
                  go_wp2_with (first | (go_at_call 23; (with_reducible refine (enc1_any H13.out.eb (by omega) (n := 1) (u := x.f3) (put1 (HKR.out.1 x.f3 (by simp [k1])).1 (HKR.out.1 x.f3 (by simp [k1])).2) e3).mono ?_); rintro e w14 ⟨rfl, hg, v14, hE⟩; obtain ⟨x14, hy⟩ : ∃ y, x13 ++ Wi.putB 1 (x.f3) = y := ⟨_, rfl⟩; rw [hy] at hE; have H14 := Aside0.mk (H13.out.step hg hE); have hl14 : x14.length = x13.length + 1 := (by rw [← hy, List.length_append, putB_len1]); have X14 := Aside0.mk hy; have HPB := Aside0.mk (blk_grown hPB hg (fun e => hpq (Option.some.inj e))); clear hg hE hy e0 e1 e2 e3 e4 e5 e6 e7 e8 e9 e10 p0))
                  go_roundw
                  case rel => exact ⟨4, by first | rfl | go_num, by omega, ⟨⟨_, _, H14.out, HPB.out, by rw [← X14.out, X13.out]; simp [k1], by omega⟩⟩⟩
                  case measure => simp [intOf]
                · omega
              · obtain rfl : i = 4 := by omega
                have XE13 : Aside0 (x13 = x12 ++ (k1 x).flatMap (Wi.putB 1)) := ⟨X13.out⟩
                clear hPB hpq hiL hi
                go_upto_region 22 with (first | (go_at_call 23; (with_reducible refine (enc1_any H13.out.eb (by omega) (n := 4) (u := x.f4) (put4 HKR.out.2.1.1 HKR.out.2.1.2) e4).mono ?_); rintro e w15 ⟨rfl, hg, v15, hE⟩; obtain ⟨x15, hy⟩ : ∃ y, x13 ++ Wi.putB 4 (x.f4) = y := ⟨_, rfl⟩; rw [hy] at hE; have H15 := Aside0.mk (H13.out.step hg hE); have hl15 : x15.length = x13.length + 4 := (by rw [← hy, List.length_append, putB_len4]); have X15 := Aside0.mk hy; clear hg hE hy e0 e1 e2 e3 e4 e5 e6 e7 e8 e9 e10))
                go_region_held3 (fun _ => True) (first | trivial | go_keep) (first | fail)
                all_goals
                  have HN := And.intro (H15.out.far (below_drew (below_alloc (Below.refl w15.heap.size w15) (.cells #[.pointer (some ⟨(ad.add (j * 11)).block, (ad.add (j * 11)).off + 5, none⟩), .pointer (some ⟨(ad.add (j * 11)).block, (ad.add (j * 11)).off + 6, none⟩), .pointer (some ⟨(ad.add (j * 11)).block, (ad.add (j * 11)).off + 7, none⟩)] 53)))) (blk_drew (blk_new w15 (.cells #[.pointer (some ⟨(ad.add (j * 11)).block, (ad.add (j * 11)).off + 5, none⟩), .pointer (some ⟨(ad.add (j * 11)).block, (ad.add (j * 11)).off + 6, none⟩), .pointer (some ⟨(ad.add (j * 11)).block, (ad.add (j * 11)).off + 7, none⟩)] 53)))
                  go_wp2
                  revert HN
                  generalize (w15.alloc (.cells #[.pointer (some ⟨(ad.add (j * 11)).block, (ad.add (j * 11)).off + 5, none⟩), .pointer (some ⟨(ad.add (j * 11)).block, (ad.add (j * 11)).off + 6, none⟩), .pointer (some ⟨(ad.add (j * 11)).block, (ad.add (j * 11)).off + 7, none⟩)] 53)).drew = wN
                  generalize w15.heap.size = pb
                  intro HN
                  have HP0 : Aside0 (∃ (v : Value) (ys : List Int), AB w0 wN cb qb C (.slice B2 C.ws.length d2) (.slice (some ad) C.ks.length d3) (.slice B4 C.ac.length d4) v ys ∧ wN.heap[pb]? = some (.cells #[.pointer (some ⟨(ad.add (j * 11)).block, (ad.add (j * 11)).off + 5, none⟩), .pointer (some ⟨(ad.add (j * 11)).block, (ad.add (j * 11)).off + 6, none⟩), .pointer (some ⟨(ad.add (j * 11)).block, (ad.add (j * 11)).off + 7, none⟩)] 53 (0, 0)) ∧ ys = x15 ++ ((k2 x).take 0).flatMap (Wi.putB 1) ∧ ys.length = x15.length + 0) := ⟨⟨_, _, HN.1, HN.2, by simp, by omega⟩⟩
                  clear HN
                  go_loopw [113] (fun vS wr => ∃ i : Nat, vS = .int .i64 i ∧ i ≤ 3 ∧ Aside0 (∃ (v : Value) (ys : List Int), AB w0 wr cb qb C (.slice B2 C.ws.length d2) (.slice (some ad) C.ks.length d3) (.slice B4 C.ac.length d4) v ys ∧ wr.heap[pb]? = some (.cells #[.pointer (some ⟨(ad.add (j * 11)).block, (ad.add (j * 11)).off + 5, none⟩), .pointer (some ⟨(ad.add (j * 11)).block, (ad.add (j * 11)).off + 6, none⟩), .pointer (some ⟨(ad.add (j * 11)).block, (ad.add (j * 11)).off + 7, none⟩)] 53 (0, 0)) ∧ ys = x15 ++ ((k2 x).take i).flatMap (Wi.putB 1) ∧ ys.length = x15.length + i)) (fun vS _ => 3 - (intOf vS).toNat)
                  case atStart => exact ⟨0, rfl, by omega, HP0⟩
                  case round =>
                    clear HP0
                    obtain ⟨i, rfl, hi, HQ⟩ := hrel
                    obtain ⟨v16, x16, hA, hPB, hy, hl16⟩ := HQ.out
                    have H16 := Aside0.mk hA
                    have X16 := Aside0.mk hy
                    clear hA hy HQ
                    obtain ⟨e0, e1, e2, e3, e4, e5, e6, e7, e8, e9, e10⟩ := HCH.out _ _ _ H16.out
                    have hpq : pb ≠ qb := fun e => by subst e; have := H16.out.eb.bl.symm.trans hPB; simp at this
                    by_cases hiL : i < 3
                    · rcases i with _ | _ | _ | i
                      ·
                        have p0 := (blk_cell hPB 0).trans (show _ = some (.pointer (some ⟨(ad.add (j * 11)).block, (ad.add (j * 11)).off + 5, none⟩)) from rfl)
                        go_wp2_with (first | (go_at_call 23; (with_reducible refine (enc1_any H16.out.eb (by omega) (n := 1) (u := x.f5) (put1 (HKR.out.2.2.1 x.f5 (by simp [k2])).1 (HKR.out.2.2.1 x.f5 (by simp [k2])).2) e5).mono ?_); rintro e w17 ⟨rfl, hg, v17, hE⟩; obtain ⟨x17, hy⟩ : ∃ y, x16 ++ Wi.putB 1 (x.f5) = y := ⟨_, rfl⟩; rw [hy] at hE; have H17 := Aside0.mk (H16.out.step hg hE); have hl17 : x17.length = x16.length + 1 := (by rw [← hy, List.length_append, putB_len1]); have X17 := Aside0.mk hy; have HPB := Aside0.mk (blk_grown hPB hg (fun e => hpq (Option.some.inj e))); clear hg hE hy e0 e1 e2 e3 e4 e5 e6 e7 e8 e9 e10 p0))
                        go_roundw
                        case rel => exact ⟨1, by first | rfl | go_num, by omega, ⟨⟨_, _, H17.out, HPB.out, by rw [← X17.out, X16.out]; simp [k2], by omega⟩⟩⟩
                        case measure => simp [intOf]
                      ·
                        have p0 := (blk_cell hPB 1).trans (show _ = some (.pointer (some ⟨(ad.add (j * 11)).block, (ad.add (j * 11)).off + 6, none⟩)) from rfl)
                        go_wp2_with (first | (go_at_call 23; (with_reducible refine (enc1_any H16.out.eb (by omega) (n := 1) (u := x.f6) (put1 (HKR.out.2.2.1 x.f6 (by simp [k2])).1 (HKR.out.2.2.1 x.f6 (by simp [k2])).2) e6).mono ?_); rintro e w17 ⟨rfl, hg, v17, hE⟩; obtain ⟨x17, hy⟩ : ∃ y, x16 ++ Wi.putB 1 (x.f6) = y := ⟨_, rfl⟩; rw [hy] at hE; have H17 := Aside0.mk (H16.out.step hg hE); have hl17 : x17.length = x16.length + 1 := (by rw [← hy, List.length_append, putB_len1]); have X17 := Aside0.mk hy; have HPB := Aside0.mk (blk_grown hPB hg (fun e => hpq (Option.some.inj e))); clear hg hE hy e0 e1 e2 e3 e4 e5 e6 e7 e8 e9 e10 p0))
                        go_roundw
                        case rel => exact ⟨2, by first | rfl | go_num, by omega, ⟨⟨_, _, H17.out, HPB.out, by rw [← X17.out, X16.out]; simp [k2], by omega⟩⟩⟩
                        case measure => simp [intOf]
                      ·
                        have p0 := (blk_cell hPB 2).trans (show _ = some (.pointer (some ⟨(ad.add (j * 11)).block, (ad.add (j * 11)).off + 7, none⟩)) from rfl)
                        go_wp2_with (first | (go_at_call 23; (with_reducible refine (enc1_any H16.out.eb (by omega) (n := 1) (u := x.f7) (put1 (HKR.out.2.2.1 x.f7 (by simp [k2])).1 (HKR.out.2.2.1 x.f7 (by simp [k2])).2) e7).mono ?_); rintro e w17 ⟨rfl, hg, v17, hE⟩; obtain ⟨x17, hy⟩ : ∃ y, x16 ++ Wi.putB 1 (x.f7) = y := ⟨_, rfl⟩; rw [hy] at hE; have H17 := Aside0.mk (H16.out.step hg hE); have hl17 : x17.length = x16.length + 1 := (by rw [← hy, List.length_append, putB_len1]); have X17 := Aside0.mk hy; have HPB := Aside0.mk (blk_grown hPB hg (fun e => hpq (Option.some.inj e))); clear hg hE hy e0 e1 e2 e3 e4 e5 e6 e7 e8 e9 e10 p0))
                        go_roundw
                        case rel => exact ⟨3, by first | rfl | go_num, by omega, ⟨⟨_, _, H17.out, HPB.out, by rw [← X17.out, X16.out]; simp [k2], by omega⟩⟩⟩
                        case measure => simp [intOf]
                      · omega
                    · obtain rfl : i = 3 := by omega
                      have XE16 : Aside0 (x16 = x15 ++ (k2 x).flatMap (Wi.putB 1)) := ⟨X16.out⟩
                      clear hPB hpq hiL hi
                      go_upto_region 28 with (first | (go_at_call 23; (with_reducible refine (enc1_any H16.out.eb (by omega) (n := 4) (u := x.f8) (put4 HKR.out.2.2.2.1.1 HKR.out.2.2.2.1.2) e8).mono ?_); rintro e w18 ⟨rfl, hg, v18, hE⟩; obtain ⟨x18, hy⟩ : ∃ y, x16 ++ Wi.putB 4 (x.f8) = y := ⟨_, rfl⟩; rw [hy] at hE; have H18 := Aside0.mk (H16.out.step hg hE); have hl18 : x18.length = x16.length + 4 := (by rw [← hy, List.length_append, putB_len4]); have X18 := Aside0.mk hy; clear hg hE hy e0 e1 e2 e3 e4 e5 e6 e7 e8 e9 e10; obtain ⟨e0, e1, e2, e3, e4, e5, e6, e7, e8, e9, e10⟩ := HCH.out _ _ _ H18.out))
                      go_upto_region 29 with (first | (go_at_call 23; (with_reducible refine (enc1_any H18.out.eb (by omega) (n := 1) (u := x.f9) (put1 HKR.out.2.2.2.2.1.1 HKR.out.2.2.2.2.1.2) e9).mono ?_); rintro e w19 ⟨rfl, hg, v19, hE⟩; obtain ⟨x19, hy⟩ : ∃ y, x18 ++ Wi.putB 1 (x.f9) = y := ⟨_, rfl⟩; rw [hy] at hE; have H19 := Aside0.mk (H18.out.step hg hE); have hl19 : x19.length = x18.length + 1 := (by rw [← hy, List.length_append, putB_len1]); have X19 := Aside0.mk hy; clear hg hE hy e0 e1 e2 e3 e4 e5 e6 e7 e8 e9 e10; obtain ⟨e0, e1, e2, e3, e4, e5, e6, e7, e8, e9, e10⟩ := HCH.out _ _ _ H19.out))
                      go_wp2_with (first | (go_at_call 23; (with_reducible refine (enc1_any H19.out.eb (by omega) (n := 1) (u := x.f10) (put1 HKR.out.2.2.2.2.2.1 HKR.out.2.2.2.2.2.2) e10).mono ?_); rintro e w20 ⟨rfl, hg, v20, hE⟩; obtain ⟨x20, hy⟩ : ∃ y, x19 ++ Wi.putB 1 (x.f10) = y := ⟨_, rfl⟩; rw [hy] at hE; have H20 := Aside0.mk (H19.out.step hg hE); have hl20 : x20.length = x19.length + 1 := (by rw [← hy, List.length_append, putB_len1]); have X20 := Aside0.mk hy; clear hg hE hy e0 e1 e2 e3 e4 e5 e6 e7 e8 e9 e10))
                      have HEQ : Aside0 (x20 = x10 ++ (C.ks.take (j + 1)).flatMap encK) := ⟨by rw [← X20.out, ← X19.out, ← X18.out, XE16.out, ← X15.out, XE13.out, X12.out, HTF.out]; simp [encK]⟩
                      go_roundw
                      case rel => exact ⟨j + 1, by go_num, by omega, ⟨⟨_, _, H20.out, HEQ.out, by omega⟩⟩⟩
                      case measure => simp [intOf]; omega
        · have d1 : decide ((j : Int) < (C.ks.length : Int)) = false := decide_eq_false (by omega)
          have d1n : decide (j < C.ks.length) = false := decide_eq_false hlt
          obtain rfl : j = C.ks.length := by omega
          rw [List.take_length] at X12
          go_upto_region 32 with (first | (go_at_call 52; (with_reducible refine (cnt3_any H12.out.eb (by omega) (n := C.ac.length) (by omega) c4 H12.out.ne).mono ?_); rintro e w21 ⟨rfl, hg, v21, hE⟩; obtain ⟨x21, hy⟩ : ∃ y, x12 ++ Wi.putB 1 ((C.ac.length : Nat) : Int) = y := ⟨_, rfl⟩; rw [hy] at hE; have H21 := Aside0.mk (H12.out.step hg hE); have hl21 : x21.length = x12.length + 1 := (by rw [← hy, List.length_append, putB_len1]); have X21 := Aside0.mk hy; clear hg hE hy c0 c1 c2 c3 c4))
          have c0 := (blk_cell H21.out.bk 0).trans (show _ = some (.int .i64 C.p) from rfl)
          have c1 := (blk_cell H21.out.bk 1).trans (show _ = some (.int .i64 C.f) from rfl)
          have c2 := (blk_cell H21.out.bk 2).trans (show _ = some (.slice B2 C.ws.length d2) from rfl)
          have c3 := (blk_cell H21.out.bk 3).trans (show _ = some (.slice B3 C.ks.length d3) from rfl)
          have c4 := (blk_cell H21.out.bk 4).trans (show _ = some (.slice B4 C.ac.length d4) from rfl)
          clear H12
          go_wp2
          go_loopw [147] (fun v147 wr => ∃ j : Nat, v147 = .int .i64 j ∧ j ≤ C.ac.length ∧ Aside0 (∃ (v : Value) (ys : List Int), AB w0 wr cb qb C (.slice B2 C.ws.length d2) (.slice B3 C.ks.length d3) (.slice B4 C.ac.length d4) v ys ∧ ys = x21 ++ (C.ac.take j).flatMap (Wi.putB 1) ∧ ys.length = x21.length + j)) (fun v147 _ => C.ac.length - (intOf v147).toNat)
          case atStart => exact ⟨0, rfl, by omega, ⟨⟨_, _, H21.out, by simp, by omega⟩⟩⟩
          case round =>
            clear H21 c0 c1 c2 c3 c4 d1 d1n hlt hj
            rename_i gv147
            obtain ⟨j, rfl, hj, HJ⟩ := hrel
            obtain ⟨v22, x22, hA, hy, hl22⟩ := HJ.out
            have H22 := Aside0.mk hA
            have X22 := Aside0.mk hy
            clear hA hy HJ
            have c0 := (blk_cell H22.out.bk 0).trans (show _ = some (.int .i64 C.p) from rfl)
            have c1 := (blk_cell H22.out.bk 1).trans (show _ = some (.int .i64 C.f) from rfl)
            have c2 := (blk_cell H22.out.bk 2).trans (show _ = some (.slice B2 C.ws.length d2) from rfl)
            have c3 := (blk_cell H22.out.bk 3).trans (show _ = some (.slice B3 C.ks.length d3) from rfl)
            have c4 := (blk_cell H22.out.bk 4).trans (show _ = some (.slice B4 C.ac.length d4) from rfl)
            by_cases hlt : j < C.ac.length
            · have d1 : decide ((j : Int) < (C.ac.length : Int)) = true := decide_eq_true (by omega)
              have d1n : decide (j < C.ac.length) = true := decide_eq_true hlt
              have hj0 : 0 ≤ (j : Int) := by omega
              have hj1 : (j : Int) < C.ac.length := by omega
              obtain ⟨ad, hB, _⟩ := Kd.at_int H22.out.co.o4.ci.1 (j : Int) hj0 hj1
              subst hB
              have har := HR.out.ac _ (List.getElem_mem hlt)
              have htf := take_flat (Wi.putB 1) hlt
              have e0 := H22.out.act hlt
              generalize C.ac[j] = u at har htf e0
              have HAR := Aside0.mk har
              have HTF := Aside0.mk htf
              clear har htf
              go_wp2_with (first | (go_at_call 23; (with_reducible refine (enc1_any H22.out.eb (by omega) (n := 1) (u := u) (put1 HAR.out.1 HAR.out.2) e0).mono ?_); rintro e w23 ⟨rfl, hg, v23, hE⟩; obtain ⟨x23, hy⟩ : ∃ y, x22 ++ Wi.putB 1 (u) = y := ⟨_, rfl⟩; rw [hy] at hE; have H23 := Aside0.mk (H22.out.step hg hE); have hl23 : x23.length = x22.length + 1 := (by rw [← hy, List.length_append, putB_len1]); have X23 := Aside0.mk hy; clear hg hE hy c0 c1 c2 c3 c4 e0))
              have HEQ : Aside0 (x23 = x21 ++ (C.ac.take (j + 1)).flatMap (Wi.putB 1)) := ⟨by rw [← X23.out, X22.out, HTF.out]; simp⟩
              go_roundw
              case rel => exact ⟨j + 1, by go_num, by omega, ⟨⟨_, _, H23.out, HEQ.out, by omega⟩⟩⟩
              case measure => simp [intOf]; omega
            · have d1 : decide ((j : Int) < (C.ac.length : Int)) = false := decide_eq_false (by omega)
              have d1n : decide (j < C.ac.length) = false := decide_eq_false hlt
              obtain rfl : j = C.ac.length := by omega
              rw [List.take_length] at X22
              have HF : Aside0 (x22 = zs) := ⟨by rw [← HZ.out, X22.out, ← X21.out, X12.out, ← X10.out, X5.out, ← X3.out, ← X2.out, ← X1.out]; simp [encC]⟩
              go_wp2
              go_end0
              exact ⟨rfl, v22, by rw [← HF.out]; exact H22.out⟩
end Go.Proofs.YtdebbanloopcgaaDoor.Tb

/- Layer 5 (table): Encode. -/
set_option linter.unusedVariables false
set_option linter.unusedSimpArgs false
namespace Go.Proofs.YtdebbanloopcgaaDoor.Tb
open Go Go.RowKit Go.Proofs.YtdebbanloopcgaaDoorW.PrintWords Go.Proofs.YtdebbanloopcgaaDoorW.PrintLast Go.Proofs.YtdebbanloopcgaaDoorW.PrintMore Go.Proofs.YtdebbanloopcgaaDoor.Cz Go.Proofs.YtdebbanloopcgaaDoor.PTableWrites Go.Proofs.YtdebbanloopcgaaDoor.Cf
attribute [local go_sem] max2_int min2_int max_two min_two max_three min_three max_four min_four Tryd.underlying26 Tryd.underlying46 Tryd.underlying57
/-! A config that may be may be written. -/
def okB (C : Cfg) : Bool := (chk C).e == 0
theorem findI_no {α : Type} {q : α → Bool} : ∀ {l : List α} {i : Nat}, ¬ 0 ≤ findI q l i → ∀ x ∈ l, q x = false
  | [], i, _, x, hx => by cases hx
  | y :: t, i, h, x, hx => by
    have h' : ¬ 0 ≤ (if q y = true then (i : Int) else findI q t (i + 1)) := h
    cases hq : q y
    · rw [hq, if_neg (by decide)] at h'
      rcases List.mem_cons.1 hx with rfl | hx
      · exact hq
      · exact findI_no h' x hx
    · rw [hq, if_pos rfl] at h'
      omega
theorem scan_all {p f : Int} (hf : f ≤ 64) : ∀ {en : Int} {i : Nat} {l : List S46}, scanW p f en i l = none → 0 ≤ en → ∀ x ∈ l, (-1 ≤ x.f0 ∧ x.f0 ≤ p - 1) ∧ 0 ≤ x.f1 ∧ 1 ≤ x.f2 ∧ x.f1 + x.f2 ≤ f
  | en, i, [], _, _, x, hx => by cases hx
  | en, i, y :: t, h, he, x, hx => by
    have h' : (if badW p f en y = true then some i else scanW p f (y.f1 + y.f2) (i + 1) t) = none := h
    cases hb : badW p f en y
    · rw [hb, if_neg (by decide)] at h'
      unfold badW btw at hb
      simp only [Bool.or_eq_false_iff, Bool.not_eq_false', decide_eq_false_iff_not, decide_eq_true_eq] at hb
      rcases List.mem_cons.1 hx with rfl | hx
      · omega
      · exact scan_all hf h' (by omega) x hx
    · rw [hb, if_pos rfl] at h'
      cases h'
theorem rB_in {p : Int} (hp : p ≤ 4) {x : S57} (h : rB p x = true) : (∀ u ∈ k1 x, 0 ≤ u ∧ u < 256) ∧ (0 ≤ x.f4 ∧ x.f4 < 4294967296) ∧ (∀ u ∈ k2 x, 0 ≤ u ∧ u < 256) ∧ (0 ≤ x.f8 ∧ x.f8 < 4294967296) ∧ (0 ≤ x.f9 ∧ x.f9 < 256) ∧ (0 ≤ x.f10 ∧ x.f10 < 256) := by
  unfold rB rightB btw at h
  simp only [Bool.and_eq_true, Bool.not_eq_true', decide_eq_false_iff_not, decide_eq_true_eq, beq_eq_false_iff_ne, bne_eq_false_iff_eq] at h
  obtain ⟨h1, h2, _, h3, h4⟩ := h
  have hlo : 0 ≤ x.f1 ∧ 0 ≤ x.f2 := by split at h1 <;> omega
  have hhi : x.f1 < p ∧ x.f2 < p := by split at h2 <;> omega
  by_cases c1 : x.f0 = 1
  · rw [if_pos (by rw [c1]; rfl)] at h4
    simp only [Bool.and_eq_true, Bool.not_eq_true', decide_eq_true_eq, bne_eq_false_iff_eq] at h4
    refine ⟨?_, by omega, ?_, by omega, by omega, by omega⟩
    · intro u hu
      simp [k1] at hu
      omega
    · intro u hu
      simp [k2] at hu
      omega
  · rw [if_neg (by simpa using c1)] at h4
    by_cases c0 : x.f0 = 0
    · rw [if_pos (by rw [c0]; rfl)] at h4
      simp only [Bool.and_eq_true, decide_eq_true_eq, beq_iff_eq] at h4
      refine ⟨?_, by omega, ?_, by omega, by omega, by omega⟩
      · intro u hu
        simp [k1] at hu
        omega
      · intro u hu
        simp [k2] at hu
        omega
    · rw [if_neg (by simpa using c0)] at h4
      cases h4
theorem chk_two {C : Cfg} (h : (chk C).e = 0) : Cz.hd C.p C.f C.ws.length = none ∧ ls C = none := by
  unfold chk at h
  cases h1 : Cz.hd C.p C.f C.ws.length
  · rw [h1] at h
    cases h2 : ls C
    · exact ⟨rfl, rfl⟩
    · rw [h2] at h
      cases h
  · rw [h1] at h
    cases h
theorem ok_rg {C : Cfg} (h : okB C = true) : RG C := by
  have he : (chk C).e = 0 := beq_iff_eq.1 h
  obtain ⟨h1, h2⟩ := chk_two he
  obtain ⟨hp, hf, hn⟩ := hd_none h1
  unfold ls at h2
  cases h3 : scanW C.p C.f 0 0 C.ws with
  | some i => rw [h3] at h2; cases h2
  | none =>
    rw [h3] at h2
    simp only [] at h2
    split at h2
    · cases h2
    · split at h2
      · cases h2
      · split at h2
        · cases h2
        · split at h2
          · cases h2
          · rename_i q1 q2 q3 q4
            have hw := scan_all hf.2 h3 (Int.le_refl _)
            refine ⟨by omega, by omega, by omega, by omega, by omega, fun x hx => ?_, fun x hx => ?_, fun u hu => ?_⟩
            · have := hw x hx
              omega
            · have := findI_no q2 x hx
              exact rB_in (p := C.p) (by omega) (by simpa using this)
            · have := findI_no q4 u hu
              simp only [Bool.not_eq_false', btw, decide_eq_true_eq] at this
              omega
theorem encW_len (x : S46) : (encW x).length = 3 := rfl
theorem encK_len (x : S57) : (encK x).length = 17 := rfl
theorem flat_len {α : Type} {g : α → List Int} {n : Nat} (h : ∀ x, (g x).length = n) : ∀ l : List α, (l.flatMap g).length = l.length * n
  | [] => by simp
  | x :: t => by rw [List.flatMap_cons, List.length_append, h, flat_len h t, List.length_cons, Nat.succ_mul]; omega
theorem flat_wf {α : Type} {g : α → List Int} (h : ∀ x, Wi.WF (g x)) (l : List α) : Wi.WF (l.flatMap g) := fun y hy => by
  obtain ⟨x, _, hx⟩ := List.mem_flatMap.1 hy
  exact h x y hx
theorem encW_wf (x : S46) : Wi.WF (encW x) := (Wi.WF.putB _ _).app ((Wi.WF.putB _ _).app (Wi.WF.putB _ _))
theorem encK_wf (x : S57) : Wi.WF (encK x) := (flat_wf (fun _ => Wi.WF.putB _ _) _).app ((Wi.WF.putB _ _).app ((flat_wf (fun _ => Wi.WF.putB _ _) _).app ((Wi.WF.putB _ _).app ((Wi.WF.putB _ _).app (Wi.WF.putB _ _)))))
theorem encC_wf (C : Cfg) : Wi.WF (encC C) := (Wi.WF.putB _ _).app ((Wi.WF.putB _ _).app ((Wi.WF.putB _ _).app ((flat_wf encW_wf _).app ((Wi.WF.putB _ _).app ((flat_wf encK_wf _).app ((Wi.WF.putB _ _).app (flat_wf (fun _ => Wi.WF.putB _ _) _)))))))
theorem encC_len {C : Cfg} (h : RG C) : (encC C).length = 5 + 3 * C.ws.length + 17 * C.ks.length + C.ac.length := by
  unfold encC
  simp only [List.length_append, putB_len1, flat_len encW_len, flat_len encK_len, flat1_len]
  omega
/-- A config's bytes, with their sum. -/
def tabB (C : Cfg) : List Int := [231, 1] ++ encC C
def sealB (ys : List Int) : List Int := ys ++ Wi.putB 2 (Wi.sumB ys)
theorem tabB_wf (C : Cfg) : Wi.WF (tabB C) := Wi.WF.app (fun x hx => by simp at hx; omega) (encC_wf C)
theorem tabB_len {C : Cfg} (h : RG C) : (tabB C).length = 7 + 3 * C.ws.length + 17 * C.ks.length + C.ac.length := by
  unfold tabB
  rw [List.length_append, encC_len h]
  simp
  omega
set_option maxHeartbeats 16000000 in
set_option maxRecDepth 100000 in
theorem encode_any {C : Cfg} {A2 A3 A4 : Option Addr} {c2 c3 c4 : Nat} {w : World} (hX : CX w C A2 c2 A3 c3 A4 c4) (hg : LG w) (lk : C.ks.length ≤ 1000) (la : C.ac.length ≤ 1000) (lw : C.ws.length ≤ 1000) :
    Calls Tryd.prog 11 #[.agg #[.int .i64 C.p, .int .i64 C.f, .slice A2 C.ws.length c2, .slice A3 C.ks.length c3, .slice A4 C.ac.length c4]] w fun e w' => ∃ r, e = .returned (.tuple #[r, .int .i64 (chk C).e]) ∧ Wi.OI .u8 5 w w' r (if okB C = true then sealB (tabB C) else []) := by
  have CC : Aside0 (∀ W : World, Below w.heap.size w W → Calls Tryd.prog 20 #[.agg #[.int .i64 C.p, .int .i64 C.f, .slice A2 C.ws.length c2, .slice A3 C.ks.length c3, .slice A4 C.ac.length c4]] W fun e w' => e = .returned (.tuple #[.agg #[.int .i64 (chk C).a, .int .i64 (chk C).b], .int .i64 (chk C).e]) ∧ Below W.heap.size W w') := ⟨fun W hb => check_any (hX.below hb) (hg.below hb) lk la lw⟩
  have HX := Aside0.mk hX
  have hok : okB C = ((chk C).e == 0) := rfl
  have HRG := Aside0.mk (fun h => ok_rg (C := C) h)
  have hmf : ∀ (fn : Fn) (first cap : Array Value) (w : World), (Instr.makeFunc fn first cap).run Tryd.prog w = .ok (.func fn first cap) w := fun _ _ _ _ => rfl
  generalize (chk C).e = ec at CC hok ⊢
  generalize (chk C).a = ea at CC
  generalize (chk C).b = eb at CC
  clear hX hg
  have H1 : Aside0 ((w.alloc (.cells #[.int .i64 C.p, .int .i64 C.f, .slice A2 C.ws.length c2, .slice A3 C.ks.length c3, .slice A4 C.ac.length c4] 26)).heap[w.heap.size]? = some (.cells #[.int .i64 C.p, .int .i64 C.f, .slice A2 C.ws.length c2, .slice A3 C.ks.length c3, .slice A4 C.ac.length c4] 26 (0, 0)) ∧ Below w.heap.size w (w.alloc (.cells #[.int .i64 C.p, .int .i64 C.f, .slice A2 C.ws.length c2, .slice A3 C.ks.length c3, .slice A4 C.ac.length c4] 26))) := ⟨⟨blk_new _ _, below_alloc (Below.refl _ _) _⟩⟩
  have b0 := (blk_cell H1.out.1 0).trans (show _ = some (.int .i64 C.p) from rfl)
  have b1 := (blk_cell H1.out.1 1).trans (show _ = some (.int .i64 C.f) from rfl)
  have b2 := (blk_cell H1.out.1 2).trans (show _ = some (.slice A2 C.ws.length c2) from rfl)
  have b3 := (blk_cell H1.out.1 3).trans (show _ = some (.slice A3 C.ks.length c3) from rfl)
  have b4 := (blk_cell H1.out.1 4).trans (show _ = some (.slice A4 C.ac.length c4) from rfl)
  by_cases he : ec = 0
  · subst he
    have hk : okB C = true := hok
    rw [if_pos hk]
    have hrg := HRG.out hk
    clear hok HRG
    go_enter Tryd.func11, Tryd.ntmps11
    go_upto_region 4 with (first | (go_at_call 20; (with_reducible refine (CC.out _ H1.out.2).mono ?_); rintro e w2 ⟨rfl, hb⟩; have H2 := Aside0.mk (And.intro (blk_below H1.out.1 hb) (below_step H1.out.2 hb)); clear hb b0 b1 b2 b3 b4; have b0 := (blk_cell H2.out.1 0).trans (show _ = some (.int .i64 C.p) from rfl); have b1 := (blk_cell H2.out.1 1).trans (show _ = some (.int .i64 C.f) from rfl); have b2 := (blk_cell H2.out.1 2).trans (show _ = some (.slice A2 C.ws.length c2) from rfl); have b3 := (blk_cell H2.out.1 3).trans (show _ = some (.slice A3 C.ks.length c3) from rfl); have b4 := (blk_cell H2.out.1 4).trans (show _ = some (.slice A4 C.ac.length c4) from rfl)))
    have H3 : (w2.alloc (.cells #[.int .i64 ea, .int .i64 eb] 48)).heap[w.heap.size]? = some (.cells #[.int .i64 C.p, .int .i64 C.f, .slice A2 C.ws.length c2, .slice A3 C.ks.length c3, .slice A4 C.ac.length c4] 26 (0, 0)) ∧ Below w.heap.size w (w2.alloc (.cells #[.int .i64 ea, .int .i64 eb] 48)) := ⟨blk_alloc H2.out.1 _, below_alloc H2.out.2 _⟩
    clear b0 b1 b2 b3 b4 H2 H1 CC
    revert H3
    generalize (w2.alloc (.cells #[.int .i64 ea, .int .i64 eb] 48)) = w3
    intro H3
    have HW := Aside0.mk H3
    clear H3
    have b0 := (blk_cell HW.out.1 0).trans (show _ = some (.int .i64 C.p) from rfl)
    have b1 := (blk_cell HW.out.1 1).trans (show _ = some (.int .i64 C.f) from rfl)
    have b2 := (blk_cell HW.out.1 2).trans (show _ = some (.slice A2 C.ws.length c2) from rfl)
    have b3 := (blk_cell HW.out.1 3).trans (show _ = some (.slice A3 C.ks.length c3) from rfl)
    have b4 := (blk_cell HW.out.1 4).trans (show _ = some (.slice A4 C.ac.length c4) from rfl)
    have CLN := Aside0.mk (clone_any (HX.out.below HW.out.2) lw lk la)
    go_upto_region 5 with (first | (go_at_call 21; (with_reducible refine CLN.out.mono ?_); rintro e w4 ⟨D2, d2, D3, d3, D4, d4, rfl, hCO⟩; have H4 := Aside0.mk (And.intro (blk_below HW.out.1 hCO.o2.bel) (below_step HW.out.2 hCO.o2.bel)); have HCO := Aside0.mk (show CO w w4 C.ws C.ks C.ac (.slice D2 C.ws.length d2) (.slice D3 C.ks.length d3) (.slice D4 C.ac.length d4) from ⟨hCO.o2.less HW.out.2, hCO.o3.less HW.out.2, hCO.o4.less HW.out.2⟩); clear hCO b0 b1 b2 b3 b4; have b0 := (blk_cell H4.out.1 0).trans (show _ = some (.int .i64 C.p) from rfl); have b1 := (blk_cell H4.out.1 1).trans (show _ = some (.int .i64 C.f) from rfl); have b2 := (blk_cell H4.out.1 2).trans (show _ = some (.slice A2 C.ws.length c2) from rfl); have b3 := (blk_cell H4.out.1 3).trans (show _ = some (.slice A3 C.ks.length c3) from rfl); have b4 := (blk_cell H4.out.1 4).trans (show _ = some (.slice A4 C.ac.length c4) from rfl); have bf0 := blk_frozen H4.out.1 0; have bf1 := blk_frozen H4.out.1 1; have bf2 := blk_frozen H4.out.1 2; have bf3 := blk_frozen H4.out.1 3; have bf4 := blk_frozen H4.out.1 4))
    clear b0 b1 b2 b3 b4 bf0 bf1 bf2 bf3 bf4 HW CLN HX
    have H5 : (((((w4.setCell ⟨w.heap.size, 0, none⟩ (.int .i64 C.p)).setCell ⟨w.heap.size, 1, none⟩ (.int .i64 C.f)).setCell ⟨w.heap.size, 2, none⟩ (.slice D2 C.ws.length d2)).setCell ⟨w.heap.size, 3, none⟩ (.slice D3 C.ks.length d3)).setCell ⟨w.heap.size, 4, none⟩ (.slice D4 C.ac.length d4)).heap[w.heap.size]? = some (.cells #[.int .i64 C.p, .int .i64 C.f, .slice D2 C.ws.length d2, .slice D3 C.ks.length d3, .slice D4 C.ac.length d4] 26 (0, 0)) ∧ CO w (((((w4.setCell ⟨w.heap.size, 0, none⟩ (.int .i64 C.p)).setCell ⟨w.heap.size, 1, none⟩ (.int .i64 C.f)).setCell ⟨w.heap.size, 2, none⟩ (.slice D2 C.ws.length d2)).setCell ⟨w.heap.size, 3, none⟩ (.slice D3 C.ks.length d3)).setCell ⟨w.heap.size, 4, none⟩ (.slice D4 C.ac.length d4)) C.ws C.ks C.ac (.slice D2 C.ws.length d2) (.slice D3 C.ks.length d3) (.slice D4 C.ac.length d4) := ⟨(blk_put (blk_put (blk_put (blk_put (blk_put H4.out.1 0 (.int .i64 C.p) rfl) 1 (.int .i64 C.f) rfl) 2 (.slice D2 C.ws.length d2) rfl) 3 (.slice D3 C.ks.length d3) rfl) 4 (.slice D4 C.ac.length d4) rfl), (((((HCO.out.kept H4.out.1 (Nat.le_refl _) (grown_set _ w.heap.size 0 (.int .i64 C.p))).kept (blk_put H4.out.1 0 (.int .i64 C.p) rfl) (Nat.le_refl _) (grown_set _ w.heap.size 1 (.int .i64 C.f))).kept (blk_put (blk_put H4.out.1 0 (.int .i64 C.p) rfl) 1 (.int .i64 C.f) rfl) (Nat.le_refl _) (grown_set _ w.heap.size 2 (.slice D2 C.ws.length d2))).kept (blk_put (blk_put (blk_put H4.out.1 0 (.int .i64 C.p) rfl) 1 (.int .i64 C.f) rfl) 2 (.slice D2 C.ws.length d2) rfl) (Nat.le_refl _) (grown_set _ w.heap.size 3 (.slice D3 C.ks.length d3))).kept (blk_put (blk_put (blk_put (blk_put H4.out.1 0 (.int .i64 C.p) rfl) 1 (.int .i64 C.f) rfl) 2 (.slice D2 C.ws.length d2) rfl) 3 (.slice D3 C.ks.length d3) rfl) (Nat.le_refl _) (grown_set _ w.heap.size 4 (.slice D4 C.ac.length d4)))⟩
    clear H4 HCO
    revert H5
    generalize (((((w4.setCell ⟨w.heap.size, 0, none⟩ (.int .i64 C.p)).setCell ⟨w.heap.size, 1, none⟩ (.int .i64 C.f)).setCell ⟨w.heap.size, 2, none⟩ (.slice D2 C.ws.length d2)).setCell ⟨w.heap.size, 3, none⟩ (.slice D3 C.ks.length d3)).setCell ⟨w.heap.size, 4, none⟩ (.slice D4 C.ac.length d4)) = w5
    intro H5
    have H5A := Aside0.mk H5
    clear H5
    go_upto_region 6 with (first | ((with_reducible refine gate_dst (N := 17) rfl ?_); refine Wi.lit_ints (k := .u8) (e := 5) ?hg (N := 17) ?hd [231, 1] #[.int .u8 231, .int .u8 1] ?hr ?hi ?hm ?_; (case hd => rfl); (case hg => rfl); (case hr => first | (go_simp; done) | (go_simp; rfl)); (case hi => rfl); (case hm => simp); intro D w6 hC hO; have HO := Aside0.mk hO; clear hC hO))
    simp only [List.length_cons, List.length_nil] at HO
    have H7 : AB w (w6.alloc (.cells #[.slice D 2 2] 29)) w.heap.size w6.heap.size C (.slice D2 C.ws.length d2) (.slice D3 C.ks.length d3) (.slice D4 C.ac.length d4) (.slice D 2 2) [231, 1] := by
      have hb6 := HO.out.bel
      have hb7 := below_alloc (Below.refl w6.heap.size w6) (.cells #[.slice D 2 2] 29)
      have hbw := H5A.out.2.o2.bel
      exact ⟨⟨blk_new _ _, (HO.out.less hbw).far hb7, (below_step hbw hb6).size⟩, blk_below (blk_below H5A.out.1 hb6) hb7, (H5A.out.2.far hb6).far hb7, Nat.le_refl _⟩
    revert H7
    generalize (w6.alloc (.cells #[.slice D 2 2] 29)) = w7
    generalize w6.heap.size = qb
    intro H7
    have H7A := Aside0.mk H7
    clear H7 HO H5A
    have HAL := Aside0.mk (all_enc H7A.out hrg (by decide))
    have HTB : Aside0 ([231, 1] ++ encC C = tabB C) := ⟨rfl⟩
    rw [HTB.out] at HAL
    have hwf := tabB_wf C
    have hln := tabB_len hrg
    have hl9 : (tabB C).length ≤ 900 := by have := hrg.w; have := hrg.k; have := hrg.a; omega
    have HSB : Aside0 (sealB (tabB C) = tabB C ++ Wi.putB 2 (Wi.sumB (tabB C))) := ⟨rfl⟩
    skip
    have HWF := Aside0.mk hwf
    clear hwf hln
    go_upto_region 7 with (first | (go_at_call 22; (with_reducible refine HAL.out.mono ?_); rintro e w8 ⟨rfl, v8, hA⟩; obtain ⟨A8, a8, rfl, hc8⟩ := hA.eb.ob.reads; have q8 := (blk_cell hA.eb.bl 0).trans (show _ = some (.slice A8 (tabB C).length a8) from rfl); have H8 := Aside0.mk hA; have HC8 := Aside0.mk hc8; clear hA hc8))
    skip
    have HSE := Aside0.mk (Wi.seal_any HC8.out HWF.out hl9)
    rw [← HSB.out] at HSE
    go_wp2_with (first | (go_at_call 25; (with_reducible refine HSE.out.mono ?_); rintro e w9 ⟨r, rfl, ho⟩; have HO9 := Aside0.mk ho; clear ho))
    refine bodyPost_ret (results_tmp2 rfl _ _ _) rfl ?_
    exact ⟨r, rfl, HO9.out.less H8.out.bel⟩
  · have d1 : decide (ec = 0) = false := decide_eq_false he
    have d2 : (ec == 0) = false := beq_eq_false_iff_ne.mpr he
    have hk : ¬ okB C = true := by rw [hok, d2]; decide
    rw [if_neg hk]
    clear hok HRG hk he HX
    go_enter Tryd.func11, Tryd.ntmps11
    go_wp2_with (first | (go_at_call 20; (with_reducible refine (CC.out _ H1.out.2).mono ?_); rintro e w2 ⟨rfl, hb⟩; have H2 := Aside0.mk (And.intro (blk_below H1.out.1 hb) (below_step H1.out.2 hb)); clear hb b0 b1 b2 b3 b4))
    refine bodyPost_ret (results_tmp2 rfl _ _ _) rfl ?_
    exact ⟨_, rfl, Wi.OI.nil _ _ (below_alloc H2.out.2 _)⟩
end Go.Proofs.YtdebbanloopcgaaDoor.Tb
