/- Layer 21 (bound): the document's example. -/
import Derived.Test.YtcebmgndniejcaaDoorBw
set_option linter.unusedVariables false
set_option linter.unusedSimpArgs false
namespace Go.Proofs.YtcebmgndniejcaaDoor.Wn
open Go Go.RowKit Go.Shelf Go.Proofs.YtcebmgndniejcaaDoorW.PrintWords Go.Proofs.YtcebmgndniejcaaDoorW.PrintLast Go.Proofs.YtcebmgndniejcaaDoorW.PrintMore Go.Proofs.YtcebmgndniejcaaDoor.Cz Go.Proofs.YtcebmgndniejcaaDoor.PBoundWaits Go.Proofs.YtcebmgndniejcaaDoor.Cf Go.Proofs.YtcebmgndniejcaaDoor.Sat
attribute [local go_sem] Tryd.underlying26 Tryd.underlying41 Tryd.underlying43
/-- The example. -/
def pC : Cfg := ⟨2, 4, [⟨0, 0, 3⟩, ⟨-1, 3, 1⟩], [⟨1, 0, 1, 1, 0, 1, 1, 1, 9, 1, 1⟩], [0, 0]⟩
theorem far5 {W : World} {g q : Nat} {o : Array Value} {T : TypeId} {v0 v1 v2 v3 v4 : Value} (h : W.heap[q]? = some (.cells o T (0, 0))) (hne : q ≠ g) :
    (((((W.setCell ⟨g, 0, none⟩ v0).setCell ⟨g, 1, none⟩ v1).setCell ⟨g, 2, none⟩ v2).setCell ⟨g, 3, none⟩ v3).setCell ⟨g, 4, none⟩ v4).heap[q]? = some (.cells o T (0, 0)) :=
  blk_far (p := ⟨g, 4, none⟩) (blk_far (p := ⟨g, 3, none⟩) (blk_far (p := ⟨g, 2, none⟩) (blk_far (p := ⟨g, 1, none⟩) (blk_far (p := ⟨g, 0, none⟩) h hne v0) hne v1) hne v2) hne v3) hne v4
theorem put5 {W : World} {g : Nat} {a0 a1 a2 a3 a4 v0 v1 v2 v3 v4 : Value} {T : TypeId} (h : W.heap[g]? = some (.cells #[a0, a1, a2, a3, a4] T (0, 0))) :
    (((((W.setCell ⟨g, 0, none⟩ v0).setCell ⟨g, 1, none⟩ v1).setCell ⟨g, 2, none⟩ v2).setCell ⟨g, 3, none⟩ v3).setCell ⟨g, 4, none⟩ v4).heap[g]? = some (.cells #[v0, v1, v2, v3, v4] T (0, 0)) :=
  blk_put (blk_put (blk_put (blk_put (blk_put h 0 v0 rfl) 1 v1 rfl) 2 v2 rfl) 3 v3 rfl) 4 v4 rfl
theorem bel5 {w W : World} {g : Nat} {v0 v1 v2 v3 v4 : Value} (h : Below w.heap.size w W) (hg : w.heap.size ≤ g) :
    Below w.heap.size w (((((W.setCell ⟨g, 0, none⟩ v0).setCell ⟨g, 1, none⟩ v1).setCell ⟨g, 2, none⟩ v2).setCell ⟨g, 3, none⟩ v3).setCell ⟨g, 4, none⟩ v4) :=
  below_set (below_set (below_set (below_set (below_set h hg) hg) hg) hg) hg
theorem pC_cx {W : World} {g c a : Nat} (h0 : W.heap[g]? = some (.cells #[.int .i64 0, .int .i64 0, .int .i64 3, .int .i64 (-1), .int .i64 3, .int .i64 1] 41 (0, 0))) (h1 : W.heap[c]? = some (.cells #[.int .i64 1, .int .i64 0, .int .i64 1, .int .i64 1, .int .i64 0, .int .i64 1, .int .i64 1, .int .i64 1, .int .i64 9, .int .i64 1, .int .i64 1] 43 (0, 0))) (h2 : W.heap[a]? = some (.cells #[.int .i64 0, .int .i64 0] 3 (0, 0))) : CX W pC (some ⟨g, 0, none⟩) 2 (some ⟨c, 0, none⟩) 1 (some ⟨a, 0, none⟩) 2 := by
  refine ⟨⟨rfl, by simp [pC], fun _ => ⟨_, rfl, fun j p hj => ?_⟩⟩, Nat.le_refl _, ⟨rfl, by simp [pC], fun _ => ⟨_, rfl, fun j p hj => ?_⟩⟩, Nat.le_refl _, ⟨rfl, by simp [pC], fun _ => ⟨_, rfl, fun j p hj => ?_⟩⟩, Nat.le_refl _⟩
  · rcases j with _ | _ | j
    ·
      simp [pC] at hj
      subst hj
      refine ⟨[.int .i64 0, .int .i64 0, .int .i64 3], rfl, k41_mk W ⟨0, 0, 3⟩, fun i u hu => ?_⟩
      show W.cell? ((⟨g, 0, none⟩ : Addr).add (0 * 3 + i)) = some u
      rw [show ((⟨g, 0, none⟩ : Addr).add (0 * 3 + i)) = ⟨g, i, none⟩ by unfold Addr.add; split <;> simp_all]
      rw [blk_cell h0 (i), ← hu]
      rcases i with _ | _ | _ | i
      · rfl
      · rfl
      · rfl
      · cases hu
    ·
      simp [pC] at hj
      subst hj
      refine ⟨[.int .i64 (-1), .int .i64 3, .int .i64 1], rfl, k41_mk W ⟨-1, 3, 1⟩, fun i u hu => ?_⟩
      show W.cell? ((⟨g, 0, none⟩ : Addr).add (1 * 3 + i)) = some u
      rw [show ((⟨g, 0, none⟩ : Addr).add (1 * 3 + i)) = ⟨g, 3 + i, none⟩ by unfold Addr.add; split <;> simp_all]
      rw [blk_cell h0 (3 + i), ← hu]
      rcases i with _ | _ | _ | i
      · rfl
      · rfl
      · rfl
      · cases hu
    · simp [pC] at hj
  · rcases j with _ | j
    ·
      simp [pC] at hj
      subst hj
      refine ⟨[.int .i64 1, .int .i64 0, .int .i64 1, .int .i64 1, .int .i64 0, .int .i64 1, .int .i64 1, .int .i64 1, .int .i64 9, .int .i64 1, .int .i64 1], rfl, k43_mk W ⟨1, 0, 1, 1, 0, 1, 1, 1, 9, 1, 1⟩, fun i u hu => ?_⟩
      show W.cell? ((⟨c, 0, none⟩ : Addr).add (0 * 11 + i)) = some u
      rw [show ((⟨c, 0, none⟩ : Addr).add (0 * 11 + i)) = ⟨c, i, none⟩ by unfold Addr.add; split <;> simp_all]
      rw [blk_cell h1 (i), ← hu]
      rcases i with _ | _ | _ | _ | _ | _ | _ | _ | _ | _ | _ | i
      · rfl
      · rfl
      · rfl
      · rfl
      · rfl
      · rfl
      · rfl
      · rfl
      · rfl
      · rfl
      · rfl
      · cases hu
    · simp [pC] at hj
  · rcases j with _ | _ | j
    ·
      simp [pC] at hj
      subst hj
      refine ⟨[.int .i64 0], rfl, rfl, fun i u hu => ?_⟩
      show W.cell? ((⟨a, 0, none⟩ : Addr).add (0 * 1 + i)) = some u
      rw [show ((⟨a, 0, none⟩ : Addr).add (0 * 1 + i)) = ⟨a, i, none⟩ by unfold Addr.add; split <;> simp_all]
      rw [blk_cell h2 (i), ← hu]
      rcases i with _ | i
      · rfl
      · cases hu
    ·
      simp [pC] at hj
      subst hj
      refine ⟨[.int .i64 0], rfl, rfl, fun i u hu => ?_⟩
      show W.cell? ((⟨a, 0, none⟩ : Addr).add (1 * 1 + i)) = some u
      rw [show ((⟨a, 0, none⟩ : Addr).add (1 * 1 + i)) = ⟨a, 1 + i, none⟩ by unfold Addr.add; split <;> simp_all]
      rw [blk_cell h2 (1 + i), ← hu]
      rcases i with _ | i
      · rfl
      · cases hu
    · simp [pC] at hj
set_option maxHeartbeats 4000000 in
set_option maxRecDepth 100000 in
theorem plain_any (w : World) : Calls Tryd.prog 21 #[] w fun e w' => ∃ A2 A3 A4, e = .returned (.agg #[.int .i64 2, .int .i64 4, .slice A2 2 2, .slice A3 1 1, .slice A4 2 2]) ∧ CX w' pC A2 2 A3 1 A4 2 ∧ Below w.heap.size w w' := by
  have T := Aside0.mk Tryd.underlying26
  go_enter Tryd.func21, Tryd.ntmps21
  go_upto_region 1 with (first | fail)
  have H1 : (w.alloc (.cells #[.int .i64 0, .int .i64 0, .slice none 0 0, .slice none 0 0, .slice none 0 0] 26)).heap[w.heap.size]? = some (.cells #[.int .i64 0, .int .i64 0, .slice none 0 0, .slice none 0 0, .slice none 0 0] 26 (0, 0)) ∧ (w.alloc (.cells #[.int .i64 0, .int .i64 0, .slice none 0 0, .slice none 0 0, .slice none 0 0] 26)).heap.size = w.heap.size + 1 ∧ Below w.heap.size w (w.alloc (.cells #[.int .i64 0, .int .i64 0, .slice none 0 0, .slice none 0 0, .slice none 0 0] 26)) := ⟨blk_new _ _, World.size_alloc .., below_alloc (Below.refl _ _) _⟩
  revert H1
  generalize (w.alloc (.cells #[.int .i64 0, .int .i64 0, .slice none 0 0, .slice none 0 0, .slice none 0 0] 26)) = W1
  intro H1
  have H2 : (((W1.alloc (.cells #[.int .i64 0, .int .i64 0, .int .i64 3, .int .i64 (-1), .int .i64 3, .int .i64 1] 41)).alloc (.cells #[.int .i64 1, .int .i64 0, .int .i64 1, .int .i64 1, .int .i64 0, .int .i64 1, .int .i64 1, .int .i64 1, .int .i64 9, .int .i64 1, .int .i64 1] 43)).alloc (.cells #[.int .i64 0, .int .i64 0] 3)).heap[w.heap.size]? = some (.cells #[.int .i64 0, .int .i64 0, .slice none 0 0, .slice none 0 0, .slice none 0 0] 26 (0, 0)) ∧ (((W1.alloc (.cells #[.int .i64 0, .int .i64 0, .int .i64 3, .int .i64 (-1), .int .i64 3, .int .i64 1] 41)).alloc (.cells #[.int .i64 1, .int .i64 0, .int .i64 1, .int .i64 1, .int .i64 0, .int .i64 1, .int .i64 1, .int .i64 1, .int .i64 9, .int .i64 1, .int .i64 1] 43)).alloc (.cells #[.int .i64 0, .int .i64 0] 3)).heap[W1.heap.size]? = some (.cells #[.int .i64 0, .int .i64 0, .int .i64 3, .int .i64 (-1), .int .i64 3, .int .i64 1] 41 (0, 0)) ∧ (((W1.alloc (.cells #[.int .i64 0, .int .i64 0, .int .i64 3, .int .i64 (-1), .int .i64 3, .int .i64 1] 41)).alloc (.cells #[.int .i64 1, .int .i64 0, .int .i64 1, .int .i64 1, .int .i64 0, .int .i64 1, .int .i64 1, .int .i64 1, .int .i64 9, .int .i64 1, .int .i64 1] 43)).alloc (.cells #[.int .i64 0, .int .i64 0] 3)).heap[W1.heap.size + 1]? = some (.cells #[.int .i64 1, .int .i64 0, .int .i64 1, .int .i64 1, .int .i64 0, .int .i64 1, .int .i64 1, .int .i64 1, .int .i64 9, .int .i64 1, .int .i64 1] 43 (0, 0)) ∧ (((W1.alloc (.cells #[.int .i64 0, .int .i64 0, .int .i64 3, .int .i64 (-1), .int .i64 3, .int .i64 1] 41)).alloc (.cells #[.int .i64 1, .int .i64 0, .int .i64 1, .int .i64 1, .int .i64 0, .int .i64 1, .int .i64 1, .int .i64 1, .int .i64 9, .int .i64 1, .int .i64 1] 43)).alloc (.cells #[.int .i64 0, .int .i64 0] 3)).heap[W1.heap.size + 1 + 1]? = some (.cells #[.int .i64 0, .int .i64 0] 3 (0, 0)) ∧ Below w.heap.size w (((W1.alloc (.cells #[.int .i64 0, .int .i64 0, .int .i64 3, .int .i64 (-1), .int .i64 3, .int .i64 1] 41)).alloc (.cells #[.int .i64 1, .int .i64 0, .int .i64 1, .int .i64 1, .int .i64 0, .int .i64 1, .int .i64 1, .int .i64 1, .int .i64 9, .int .i64 1, .int .i64 1] 43)).alloc (.cells #[.int .i64 0, .int .i64 0] 3)) := by
    refine ⟨blk_alloc (blk_alloc (blk_alloc H1.1 _) _) _, blk_alloc (blk_alloc (blk_new _ _) _) _, blk_alloc ?_ _, ?_, below_alloc (below_alloc (below_alloc H1.2.2 _) _) _⟩
    · have := blk_new (W1.alloc (.cells #[.int .i64 0, .int .i64 0, .int .i64 3, .int .i64 (-1), .int .i64 3, .int .i64 1] 41)) (.cells #[.int .i64 1, .int .i64 0, .int .i64 1, .int .i64 1, .int .i64 0, .int .i64 1, .int .i64 1, .int .i64 1, .int .i64 9, .int .i64 1, .int .i64 1] 43)
      rw [World.size_alloc] at this
      exact this
    · have := blk_new ((W1.alloc (.cells #[.int .i64 0, .int .i64 0, .int .i64 3, .int .i64 (-1), .int .i64 3, .int .i64 1] 41)).alloc (.cells #[.int .i64 1, .int .i64 0, .int .i64 1, .int .i64 1, .int .i64 0, .int .i64 1, .int .i64 1, .int .i64 1, .int .i64 9, .int .i64 1, .int .i64 1] 43)) (.cells #[.int .i64 0, .int .i64 0] 3)
      rw [World.size_alloc, World.size_alloc] at this
      exact this
  have hsz := H1.2.1
  clear H1
  have r0 := (blk_cell H2.1 0).trans (show _ = some (.int .i64 0) from rfl)
  have r1 := (blk_cell H2.1 1).trans (show _ = some (.int .i64 0) from rfl)
  have r2 := (blk_cell H2.1 2).trans (show _ = some (.slice none 0 0) from rfl)
  have r3 := (blk_cell H2.1 3).trans (show _ = some (.slice none 0 0) from rfl)
  have r4 := (blk_cell H2.1 4).trans (show _ = some (.slice none 0 0) from rfl)
  have rf0 := blk_frozen H2.1 0
  have rf1 := blk_frozen H2.1 1
  have rf2 := blk_frozen H2.1 2
  have rf3 := blk_frozen H2.1 3
  have rf4 := blk_frozen H2.1 4
  have HH := Aside0.mk H2
  have HSZ := Aside0.mk hsz
  clear H2 hsz
  go_wp2
  obtain ⟨h0, h1, h2, h3, hb⟩ := HH.out
  have hsz := HSZ.out
  refine bodyPost_ret (results_cell_row rfl _ _ w.heap.size 26 #[.int .i64 2, .int .i64 4, .slice (some ⟨W1.heap.size, 0, none⟩) 2 2, .slice (some ⟨W1.heap.size + 1, 0, none⟩) 1 1, .slice (some ⟨W1.heap.size + 1 + 1, 0, none⟩) 2 2] (0, 0) _ rfl (put5 h0) T.out rfl (by kernel_rfl)) rfl ?_
  exact ⟨_, _, _, rfl, pC_cx (far5 h1 (by omega)) (far5 h2 (by omega)) (far5 h3 (by omega)), bel5 hb (Nat.le_refl _)⟩
theorem lw_eq : waitN pC 0 1 = 3 := by kernel_rfl
theorem lw_any : ∀ (W : World) (A2 A3 A4 : Option Addr), CX W pC A2 2 A3 1 A4 2 → LG W → Calls Tryd.prog 17 #[.agg #[.int .i64 2, .int .i64 4, .slice A2 2 2, .slice A3 1 1, .slice A4 2 2], .int .i64 0, .int .i64 1] W fun e w' => e = .returned (.int .i64 3) ∧ Below W.heap.size W w' := fun W A2 A3 A4 hx hg => by
  have := wait_any hx hg (by decide) (by decide) (by decide) 0 1
  rw [lw_eq] at this
  exact this
theorem lb_eq : boundN pC 0 0 = 4 := by kernel_rfl
theorem lb_any : ∀ (W : World) (A2 A3 A4 : Option Addr), CX W pC A2 2 A3 1 A4 2 → LG W → Calls Tryd.prog 15 #[.agg #[.int .i64 2, .int .i64 4, .slice A2 2 2, .slice A3 1 1, .slice A4 2 2], .int .i64 0, .int .i64 0] W fun e w' => e = .returned (.int .i64 4) ∧ Below W.heap.size W w' := fun W A2 A3 A4 hx hg => by
  have := bound_any hx hg (by decide) (by decide) (by decide) 0 0
  rw [lb_eq] at this
  exact this
theorem ls_eq : serveN pC 0 4 2 = 11 := by kernel_rfl
theorem ls_any : ∀ (W : World) (A2 A3 A4 : Option Addr), CX W pC A2 2 A3 1 A4 2 → LG W → Calls Tryd.prog 11 #[.agg #[.int .i64 2, .int .i64 4, .slice A2 2 2, .slice A3 1 1, .slice A4 2 2], .int .i64 0, .int .i64 4, .int .i64 2] W fun e w' => e = .returned (.int .i64 11) ∧ Below W.heap.size W w' := fun W A2 A3 A4 hx hg => by
  have := serve_any hx hg (by decide) (by decide) (by decide) 0 4 2
  rw [ls_eq] at this
  exact this
theorem lc_eq : cycN pC = 4 := by kernel_rfl
theorem lc_any : ∀ (W : World) (A2 A3 A4 : Option Addr), CX W pC A2 2 A3 1 A4 2 → LG W → Calls Tryd.prog 13 #[.agg #[.int .i64 2, .int .i64 4, .slice A2 2 2, .slice A3 1 1, .slice A4 2 2]] W fun e w' => e = .returned (.int .i64 4) ∧ Below W.heap.size W w' := fun W A2 A3 A4 hx hg => by
  have := cycle_any hx hg (by decide) (by decide) (by decide)
  rw [lc_eq] at this
  exact this
set_option maxHeartbeats 4000000 in
set_option maxRecDepth 100000 in
theorem lives_any {w : World} (hg : LG w) : Calls Tryd.prog 8 #[] w fun e w' => e = .returned (.bool true) ∧ Below w.heap.size w w' := by
  have HG := Aside0.mk hg
  have HB := Aside0.mk (Below.refl w.heap.size w)
  clear hg
  go_enter Tryd.func8, Tryd.ntmps8
  go_wp2_with (first | (go_at_call 21; refine (plain_any _).mono ?_; rintro e w2 ⟨A2, A3, A4, rfl, hx, hb⟩; have HXC := Aside0.mk hx; clear hx; have HBn := Aside0.mk (below_step HB.out hb); clear HB; have HB := HBn; clear HBn; clear hb) | (go_at_call 17; (with_reducible refine (lw_any _ _ _ _ HXC.out (HG.out.below HB.out)).mono ?_); rintro e w2 ⟨rfl, hb⟩; clear HXC; have HBn := Aside0.mk (below_step HB.out hb); clear HB; have HB := HBn; clear HBn; clear hb) | (go_at_call 15; (with_reducible refine (lb_any _ _ _ _ HXC.out (HG.out.below HB.out)).mono ?_); rintro e w2 ⟨rfl, hb⟩; clear HXC; have HBn := Aside0.mk (below_step HB.out hb); clear HB; have HB := HBn; clear HBn; clear hb) | (go_at_call 11; (with_reducible refine (ls_any _ _ _ _ HXC.out (HG.out.below HB.out)).mono ?_); rintro e w2 ⟨rfl, hb⟩; clear HXC; have HBn := Aside0.mk (below_step HB.out hb); clear HB; have HB := HBn; clear HBn; clear hb) | (go_at_call 13; (with_reducible refine (lc_any _ _ _ _ HXC.out (HG.out.below HB.out)).mono ?_); rintro e w2 ⟨rfl, hb⟩; clear HXC; have HBn := Aside0.mk (below_step HB.out hb); clear HB; have HB := HBn; clear HBn; clear hb))
  go_ret
  exact ⟨rfl, HB.out⟩
/-- The laws' blocks: G's, the argument's. -/
structure GB (w w5 W : World) (gv bv : Array Value) : Prop where
  g : W.heap[w5.heap.size]? = some (.cells gv 26 (0, 0))
  b : W.heap[w.heap.size]? = some (.cells bv 26 (0, 0))
  h5 : Below w5.heap.size w5 W
  h : Below w.heap.size w W
theorem GB.far {w w5 W W' : World} {gv bv : Array Value} (h : GB w w5 W gv bv) (hb : Below W.heap.size W W') : GB w w5 W' gv bv := ⟨blk_below h.g hb, blk_below h.b hb, below_step h.h5 hb, below_step h.h hb⟩
end Go.Proofs.YtcebmgndniejcaaDoor.Wn
