/- Layer 13 (window): the document's example. -/
import Derived.Test.YtmmkbgilcggkkaaDoorWe
set_option linter.unusedVariables false
set_option linter.unusedSimpArgs false
namespace Go.Proofs.YtmmkbgilcggkkaaDoor.Wn
open Go Go.RowKit Go.Shelf Go.Proofs.YtmmkbgilcggkkaaDoorW.PrintWords Go.Proofs.YtmmkbgilcggkkaaDoorW.PrintLast Go.Proofs.YtmmkbgilcggkkaaDoorW.PrintMore Go.Proofs.YtmmkbgilcggkkaaDoor.Cz Go.Proofs.YtmmkbgilcggkkaaDoor.PWindowCalls Go.Proofs.YtmmkbgilcggkkaaDoor.Cf Go.Proofs.YtmmkbgilcggkkaaDoor.Sat
attribute [local go_sem] Tryd.underlying26 Tryd.underlying41
/-- The example. -/
def pC : Cfg := ⟨1, 10, [⟨0, 0, 3⟩, ⟨-1, 8, 2⟩], [], [0]⟩
theorem far5 {W : World} {g q : Nat} {o : Array Value} {T : TypeId} {v0 v1 v2 v3 v4 : Value} (h : W.heap[q]? = some (.cells o T (0, 0))) (hne : q ≠ g) :
    (((((W.setCell ⟨g, 0, none⟩ v0).setCell ⟨g, 1, none⟩ v1).setCell ⟨g, 2, none⟩ v2).setCell ⟨g, 3, none⟩ v3).setCell ⟨g, 4, none⟩ v4).heap[q]? = some (.cells o T (0, 0)) :=
  blk_far (p := ⟨g, 4, none⟩) (blk_far (p := ⟨g, 3, none⟩) (blk_far (p := ⟨g, 2, none⟩) (blk_far (p := ⟨g, 1, none⟩) (blk_far (p := ⟨g, 0, none⟩) h hne v0) hne v1) hne v2) hne v3) hne v4
theorem put5 {W : World} {g : Nat} {a0 a1 a2 a3 a4 v0 v1 v2 v3 v4 : Value} {T : TypeId} (h : W.heap[g]? = some (.cells #[a0, a1, a2, a3, a4] T (0, 0))) :
    (((((W.setCell ⟨g, 0, none⟩ v0).setCell ⟨g, 1, none⟩ v1).setCell ⟨g, 2, none⟩ v2).setCell ⟨g, 3, none⟩ v3).setCell ⟨g, 4, none⟩ v4).heap[g]? = some (.cells #[v0, v1, v2, v3, v4] T (0, 0)) :=
  blk_put (blk_put (blk_put (blk_put (blk_put h 0 v0 rfl) 1 v1 rfl) 2 v2 rfl) 3 v3 rfl) 4 v4 rfl
theorem bel5 {w W : World} {g : Nat} {v0 v1 v2 v3 v4 : Value} (h : Below w.heap.size w W) (hg : w.heap.size ≤ g) :
    Below w.heap.size w (((((W.setCell ⟨g, 0, none⟩ v0).setCell ⟨g, 1, none⟩ v1).setCell ⟨g, 2, none⟩ v2).setCell ⟨g, 3, none⟩ v3).setCell ⟨g, 4, none⟩ v4) :=
  below_set (below_set (below_set (below_set (below_set h hg) hg) hg) hg) hg
theorem pC_cx {W : World} {g a : Nat} (h0 : W.heap[g]? = some (.cells #[.int .i64 0, .int .i64 0, .int .i64 3, .int .i64 (-1), .int .i64 8, .int .i64 2] 41 (0, 0))) (h1 : W.heap[a]? = some (.cells #[.int .i64 0] 3 (0, 0))) : CX W pC (some ⟨g, 0, none⟩) 2 none 0 (some ⟨a, 0, none⟩) 1 := by
  refine ⟨⟨rfl, by simp [pC], fun _ => ⟨_, rfl, fun j p hj => ?_⟩⟩, Nat.le_refl _, Kd.C_nil _ _, Nat.le_refl _, ⟨rfl, by simp [pC], fun _ => ⟨_, rfl, fun j p hj => ?_⟩⟩, Nat.le_refl _⟩
  · rcases j with _ | _ | j
    · simp [pC] at hj
      subst hj
      refine ⟨[.int .i64 0, .int .i64 0, .int .i64 3], rfl, k41_mk W ⟨0, 0, 3⟩, fun i u hu => ?_⟩
      show W.cell? ((⟨g, 0, none⟩ : Addr).add (0 * 3 + i)) = some u
      rw [show ((⟨g, 0, none⟩ : Addr).add (0 * 3 + i)) = ⟨g, i, none⟩ by unfold Addr.add; split <;> simp_all]
      rw [blk_cell h0 i, ← hu]
      rcases i with _ | _ | _ | i
      · rfl
      · rfl
      · rfl
      · cases hu
    · simp [pC] at hj
      subst hj
      refine ⟨[.int .i64 (-1), .int .i64 8, .int .i64 2], rfl, k41_mk W ⟨-1, 8, 2⟩, fun i u hu => ?_⟩
      show W.cell? ((⟨g, 0, none⟩ : Addr).add (1 * 3 + i)) = some u
      rw [show ((⟨g, 0, none⟩ : Addr).add (1 * 3 + i)) = ⟨g, 3 + i, none⟩ by unfold Addr.add; split <;> simp_all]
      rw [blk_cell h0 (3 + i), ← hu]
      rcases i with _ | _ | _ | i
      · rfl
      · rfl
      · rfl
      · cases hu
    · simp [pC] at hj
  · rcases j with _ | j
    · simp [pC] at hj
      subst hj
      refine ⟨[.int .i64 0], rfl, rfl, fun i u hu => ?_⟩
      show W.cell? ((⟨a, 0, none⟩ : Addr).add (0 * 1 + i)) = some u
      rw [show ((⟨a, 0, none⟩ : Addr).add (0 * 1 + i)) = ⟨a, i, none⟩ by unfold Addr.add; split <;> simp_all]
      rw [blk_cell h1 i, ← hu]
      rcases i with _ | i
      · rfl
      · cases hu
    · simp [pC] at hj
set_option maxHeartbeats 4000000 in
set_option maxRecDepth 100000 in
theorem plain_any (w : World) : Calls Tryd.prog 20 #[] w fun e w' => ∃ A2 A4, e = .returned (.agg #[.int .i64 1, .int .i64 10, .slice A2 2 2, .slice none 0 0, .slice A4 1 1]) ∧ CX w' pC A2 2 none 0 A4 1 ∧ Below w.heap.size w w' := by
  have T := Aside0.mk Tryd.underlying26
  go_enter Tryd.func20, Tryd.ntmps20
  go_upto_region 1 with (first | fail)
  have H1 : (w.alloc (.cells #[.int .i64 0, .int .i64 0, .slice none 0 0, .slice none 0 0, .slice none 0 0] 26)).heap[w.heap.size]? = some (.cells #[.int .i64 0, .int .i64 0, .slice none 0 0, .slice none 0 0, .slice none 0 0] 26 (0, 0)) ∧ (w.alloc (.cells #[.int .i64 0, .int .i64 0, .slice none 0 0, .slice none 0 0, .slice none 0 0] 26)).heap.size = w.heap.size + 1 ∧ Below w.heap.size w (w.alloc (.cells #[.int .i64 0, .int .i64 0, .slice none 0 0, .slice none 0 0, .slice none 0 0] 26)) := ⟨blk_new _ _, World.size_alloc .., below_alloc (Below.refl _ _) _⟩
  revert H1
  generalize (w.alloc (.cells #[.int .i64 0, .int .i64 0, .slice none 0 0, .slice none 0 0, .slice none 0 0] 26)) = W1
  intro H1
  have H2 : ((W1.alloc (.cells #[.int .i64 0, .int .i64 0, .int .i64 3, .int .i64 (-1), .int .i64 8, .int .i64 2] 41)).alloc (.cells #[.int .i64 0] 3)).heap[w.heap.size]? = some (.cells #[.int .i64 0, .int .i64 0, .slice none 0 0, .slice none 0 0, .slice none 0 0] 26 (0, 0)) ∧ ((W1.alloc (.cells #[.int .i64 0, .int .i64 0, .int .i64 3, .int .i64 (-1), .int .i64 8, .int .i64 2] 41)).alloc (.cells #[.int .i64 0] 3)).heap[W1.heap.size]? = some (.cells #[.int .i64 0, .int .i64 0, .int .i64 3, .int .i64 (-1), .int .i64 8, .int .i64 2] 41 (0, 0)) ∧ ((W1.alloc (.cells #[.int .i64 0, .int .i64 0, .int .i64 3, .int .i64 (-1), .int .i64 8, .int .i64 2] 41)).alloc (.cells #[.int .i64 0] 3)).heap[W1.heap.size + 1]? = some (.cells #[.int .i64 0] 3 (0, 0)) ∧ Below w.heap.size w ((W1.alloc (.cells #[.int .i64 0, .int .i64 0, .int .i64 3, .int .i64 (-1), .int .i64 8, .int .i64 2] 41)).alloc (.cells #[.int .i64 0] 3)) :=
    ⟨blk_alloc (blk_alloc H1.1 _) _, blk_alloc (blk_new _ _) _, by have := blk_new (W1.alloc (.cells #[.int .i64 0, .int .i64 0, .int .i64 3, .int .i64 (-1), .int .i64 8, .int .i64 2] 41)) (.cells #[.int .i64 0] 3); rw [World.size_alloc] at this; exact this, below_alloc (below_alloc H1.2.2 _) _⟩
  have hsz := H1.2.1
  clear H1
  have r0 := (blk_cell H2.1 0).trans (show _ = some (.int .i64 0) from rfl)
  have r1 := (blk_cell H2.1 1).trans (show _ = some (.int .i64 0) from rfl)
  have r2 := (blk_cell H2.1 2).trans (show _ = some (.slice none 0 0) from rfl)
  have r3 := (blk_cell H2.1 3).trans (show _ = some (.slice none 0 0) from rfl)
  have r4 := (blk_cell H2.1 4).trans (show _ = some (.slice none 0 0) from rfl)
  have rf0 := blk_frozen H2.1 0
  have rf1 := blk_frozen H2.1 1
  have rf2 := blk_frozen H2.1 2
  have rf3 := blk_frozen H2.1 3
  have rf4 := blk_frozen H2.1 4
  have HH := Aside0.mk H2
  have HSZ := Aside0.mk hsz
  clear H2 hsz
  go_wp2
  obtain ⟨h0, h1, h2, hb⟩ := HH.out
  have hsz := HSZ.out
  refine bodyPost_ret (results_cell_row rfl _ _ w.heap.size 26 #[.int .i64 1, .int .i64 10, .slice (some ⟨W1.heap.size, 0, none⟩) 2 2, .slice none 0 0, .slice (some ⟨W1.heap.size + 1, 0, none⟩) 1 1] (0, 0) _ rfl (put5 h0) T.out rfl (by kernel_rfl)) rfl ?_
  exact ⟨_, _, rfl, pC_cx (far5 h1 (by omega)) (far5 h2 (by omega)), bel5 hb (Nat.le_refl _)⟩
theorem w18_eq : whoN pC 18 = some (-1) := by kernel_rfl
theorem w18_any : ∀ (W : World) (A2 A4 : Option Addr), CX W pC A2 2 none 0 A4 1 → LG W → Calls Tryd.prog 14 #[.agg #[.int .i64 1, .int .i64 10, .slice A2 2 2, .slice none 0 0, .slice A4 1 1], .int .i64 18] W fun e w' => e = .returned (.tuple #[.int .i64 (-1), .bool true]) ∧ Below W.heap.size W w' := fun W A2 A4 hx hg => by
  have := whose_any hx hg (by decide) (by decide) (by decide) 18
  rw [w18_eq] at this
  exact this
theorem w5_eq : whoN pC 5 = none := by kernel_rfl
theorem w5_any : ∀ (W : World) (A2 A4 : Option Addr), CX W pC A2 2 none 0 A4 1 → LG W → Calls Tryd.prog 14 #[.agg #[.int .i64 1, .int .i64 10, .slice A2 2 2, .slice none 0 0, .slice A4 1 1], .int .i64 5] W fun e w' => e = .returned (.tuple #[.int .i64 0, .bool false]) ∧ Below W.heap.size W w' := fun W A2 A4 hx hg => by
  have := whose_any hx hg (by decide) (by decide) (by decide) 5
  rw [w5_eq] at this
  exact this
theorem b18_eq : beforeN pC (-1) 18 = 2 := by kernel_rfl
theorem b18_any : ∀ (W : World) (A2 A4 : Option Addr), CX W pC A2 2 none 0 A4 1 → LG W → Calls Tryd.prog 13 #[.agg #[.int .i64 1, .int .i64 10, .slice A2 2 2, .slice none 0 0, .slice A4 1 1], .int .i64 (-1), .int .i64 18] W fun e w' => e = .returned (.int .i64 2) ∧ Below W.heap.size W w' := fun W A2 A4 hx hg => by
  have := before_any hx hg (by decide) (by decide) (by decide) (-1) 18
  rw [b18_eq] at this
  exact this
theorem n2_eq : nthN pC (-1) 2 = 18 := by kernel_rfl
theorem n2_any : ∀ (W : World) (A2 A4 : Option Addr), CX W pC A2 2 none 0 A4 1 → LG W → Calls Tryd.prog 15 #[.agg #[.int .i64 1, .int .i64 10, .slice A2 2 2, .slice none 0 0, .slice A4 1 1], .int .i64 (-1), .int .i64 2] W fun e w' => e = .returned (.int .i64 18) ∧ Below W.heap.size W w' := fun W A2 A4 hx hg => by
  have := nth_any hx hg (by decide) (by decide) (by decide) (-1) 2
  rw [n2_eq] at this
  exact this
theorem u4_eq : untilN pC 0 4 = 10 := by kernel_rfl
theorem u4_any : ∀ (W : World) (A2 A4 : Option Addr), CX W pC A2 2 none 0 A4 1 → LG W → Calls Tryd.prog 16 #[.agg #[.int .i64 1, .int .i64 10, .slice A2 2 2, .slice none 0 0, .slice A4 1 1], .int .i64 0, .int .i64 4] W fun e w' => e = .returned (.int .i64 10) ∧ Below W.heap.size W w' := fun W A2 A4 hx hg => by
  have := until_any hx hg (by decide) (by decide) (by decide) 0 4
  rw [u4_eq] at this
  exact this
set_option maxHeartbeats 4000000 in
set_option maxRecDepth 100000 in
theorem lives_any {w : World} (hg : LG w) : Calls Tryd.prog 10 #[] w fun e w' => e = .returned (.bool true) ∧ Below w.heap.size w w' := by
  have HG := Aside0.mk hg
  have HB := Aside0.mk (Below.refl w.heap.size w)
  clear hg
  go_enter Tryd.func10, Tryd.ntmps10
  go_wp2_with (first | (go_at_call 20; refine (plain_any _).mono ?_; rintro e w2 ⟨A2, A4, rfl, hx, hb⟩; have HXC := Aside0.mk hx; clear hx; have HBn := Aside0.mk (below_step HB.out hb); clear HB; have HB := HBn; clear HBn; clear hb) | (go_at_call 14; (with_reducible refine (w18_any _ _ _ HXC.out (HG.out.below HB.out)).mono ?_); rintro e w2 ⟨rfl, hb⟩; clear HXC; have HBn := Aside0.mk (below_step HB.out hb); clear HB; have HB := HBn; clear HBn; clear hb) | (go_at_call 14; (with_reducible refine (w5_any _ _ _ HXC.out (HG.out.below HB.out)).mono ?_); rintro e w2 ⟨rfl, hb⟩; clear HXC; have HBn := Aside0.mk (below_step HB.out hb); clear HB; have HB := HBn; clear HBn; clear hb) | (go_at_call 13; (with_reducible refine (b18_any _ _ _ HXC.out (HG.out.below HB.out)).mono ?_); rintro e w2 ⟨rfl, hb⟩; clear HXC; have HBn := Aside0.mk (below_step HB.out hb); clear HB; have HB := HBn; clear HBn; clear hb) | (go_at_call 15; (with_reducible refine (n2_any _ _ _ HXC.out (HG.out.below HB.out)).mono ?_); rintro e w2 ⟨rfl, hb⟩; clear HXC; have HBn := Aside0.mk (below_step HB.out hb); clear HB; have HB := HBn; clear HBn; clear hb) | (go_at_call 16; (with_reducible refine (u4_any _ _ _ HXC.out (HG.out.below HB.out)).mono ?_); rintro e w2 ⟨rfl, hb⟩; clear HXC; have HBn := Aside0.mk (below_step HB.out hb); clear HB; have HB := HBn; clear HBn; clear hb))
  go_ret
  exact ⟨rfl, HB.out⟩
end Go.Proofs.YtmmkbgilcggkkaaDoor.Wn
