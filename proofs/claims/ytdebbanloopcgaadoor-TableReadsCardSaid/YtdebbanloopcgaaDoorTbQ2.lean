/- Layer 5 (table): TbD, TbC, TbO, TbV, TbS, TbA, TbX, laid into one text by wip/tq.py. -/
import Derived.Test.YtdebbanloopcgaaDoorTbQ1
import Derived.Test.YtdebbanloopcgaaDoorTbW2
import Derived.Deep.RegionHeld3
import Derived.Test.YtdebbanloopcgaaDoorTbQ1
/- Layer 5 (table): Decode's closure. -/
set_option linter.unusedVariables false
set_option linter.unusedSimpArgs false
namespace Go.Proofs.YtdebbanloopcgaaDoor.Tb
open Go Go.RowKit Go.Proofs.YtdebbanloopcgaaDoorW.PrintWords Go.Proofs.YtdebbanloopcgaaDoorW.PrintLast Go.Proofs.YtdebbanloopcgaaDoorW.PrintMore Go.Proofs.YtdebbanloopcgaaDoor.Cz Go.Proofs.YtdebbanloopcgaaDoor.PTableWrites Go.Proofs.YtdebbanloopcgaaDoor.Cf
attribute [local go_sem] max2_int min2_int max_two min_two max_three min_three max_four min_four Tryd.underlying26 Tryd.underlying46 Tryd.underlying57
/-- The reader and the variable that holds it. -/
structure DB (W : World) (rq g : Nat) (r : Wi.Rd) : Prop where
  rq : W.heap[rq]? = some (.cells #[.pointer (some ⟨g, 0, none⟩)] 62 (0, 0))
  rd : Wi.RD W g r
theorem DB.far {W W' : World} {rq g : Nat} {r : Wi.Rd} (h : DB W rq g r) (hb : Below W.heap.size W W') : DB W' rq g r := ⟨blk_below h.rq hb, h.rd.far hb⟩
theorem DB.ne {W : World} {rq g : Nat} {r : Wi.Rd} (h : DB W rq g r) {b t : Nat} {cs : Array Value} (hb : W.heap[b]? = some (.cells cs t (0, 0))) (h1 : t ≠ 103) (h2 : t ≠ 62) : b ≠ g ∧ b ≠ rq := by
  constructor
  · intro e
    subst e
    obtain ⟨cs', hc⟩ := h.rd.blk
    have := hb.symm.trans hc
    simp at this
    exact h1 this.2
  · intro e
    subst e
    have := hb.symm.trans h.rq
    simp at this
    exact h2 this.2
theorem DB.kept {W W' : World} {rq g : Nat} {r : Wi.Rd} (h : DB W rq g r) {b t : Nat} {cs : Array Value} (hb : W.heap[b]? = some (.cells cs t (0, 0))) (h1 : t ≠ 103) (h2 : t ≠ 62) (h3 : t ≠ 5) (hg : W.grownBy W' (some b)) : DB W' rq g r :=
  ⟨blk_grown h.rq hg (fun e => (h.ne hb h1 h2).2 (Option.some.inj e).symm), h.rd.kept hb hg h1 h3⟩
set_option maxHeartbeats 16000000 in
set_option maxRecDepth 100000 in
theorem dec1_any {W : World} {rq g : Nat} {r : Wi.Rd} (h : DB W rq g r) (n : Int) {ab ao t : Nat} {cs : Array Value} {u : Value} (hb : W.heap[ab]? = some (.cells cs t (0, 0))) (h1 : t ≠ 103) (h2 : t ≠ 62) (hc : cs[ao]? = some u) (hu : ∃ x, u = .int .i64 x) :
    Calls Tryd.prog 34 #[.int .i64 n, .pointer (some ⟨ab, ao, none⟩), .pointer (some ⟨rq, 0, none⟩)] W fun e W' => e = .returned (.tuple #[]) ∧ ∃ W1, W.grownBy W1 (some g) ∧ DB W1 rq g (Wi.next r n) ∧ W' = W1.setCell ⟨ab, ao, none⟩ (.int .i64 (Wi.nextV r n)) := by
  obtain ⟨x, rfl⟩ := hu
  have hne := h.ne hb h1 h2
  have hrg : rq ≠ g := by
    intro e
    subst e
    obtain ⟨cs', hc'⟩ := h.rd.blk
    have := h.rq.symm.trans hc'
    simp at this
  have q0 := (blk_cell h.rq 0).trans (show _ = some (.pointer (some ⟨g, 0, none⟩)) from rfl)
  have HN := Aside0.mk (Wi.next_any h.rd n)
  have HQ := Aside0.mk h.rq
  have HB := Aside0.mk hb
  clear h hb
  go_enter Tryd.func34, Tryd.ntmps34
  go_wp2_with (first | (go_at_call 32; (with_reducible refine HN.out.mono ?_); rintro e w1 ⟨rfl, hr, hg⟩; have hb1 := blk_grown HB.out hg (fun e => hne.1 (Option.some.inj e)); have hq1 := blk_grown HQ.out hg (fun e => hrg (Option.some.inj e)); have a0 := blk_cell' hb1 hc; have af := blk_frozen hb1 ao; have HW1 := Aside0.mk (And.intro hg (DB.mk hq1 hr)); clear hr hg hb1 hq1 q0))
  go_end0
  exact ⟨rfl, w1, HW1.out.1, HW1.out.2, rfl⟩
theorem nextV1_bd {r : Wi.Rd} (h : Wi.WF r.b) : 0 ≤ Wi.nextV r 1 ∧ Wi.nextV r 1 < 256 := by
  unfold Wi.nextV
  split
  · omega
  · split
    · omega
    · split
      · omega
      · rename_i h1 h2 h3
        cases hb : r.b with
        | nil => rw [hb] at h3; simp at h3
        | cons x t =>
          have hx := h x (by rw [hb]; exact List.mem_cons_self ..)
          simp [Wi.valB]
          omega
/-- Two blocks alone were written. -/
structure G2 (W W' : World) (g cb : Nat) : Prop where
  os : W'.os = W.os
  tape : W'.tape = W.tape
  output : W'.output = W.output
  size : W.heap.size ≤ W'.heap.size
  block : ∀ k, k < W.heap.size → k ≠ g → k ≠ cb → W'.heap[k]? = W.heap[k]?
theorem G2.of {W W' : World} {g cb b : Nat} (h : W.grownBy W' (some b)) (hb : b = g ∨ b = cb ∨ W.heap.size ≤ b) : G2 W W' g cb :=
  ⟨h.os, h.tape, h.output, h.size, fun k hk h1 h2 => h.block k hk (fun e => by have := Option.some.inj e; omega)⟩
theorem G2.trans {A B D : World} {g cb : Nat} (h : G2 A B g cb) (k : G2 B D g cb) : G2 A D g cb :=
  ⟨k.os.trans h.os, k.tape.trans h.tape, k.output.trans h.output, Nat.le_trans h.size k.size, fun j hj h1 h2 => (k.block j (Nat.lt_of_lt_of_le hj h.size) h1 h2).trans (h.block j hj h1 h2)⟩
theorem G2.bel {W W' : World} {g cb : Nat} (h : Below W.heap.size W W') : G2 W W' g cb := ⟨h.os, h.tape, h.output, h.size, fun k hk _ _ => h.block k hk⟩
end Go.Proofs.YtdebbanloopcgaaDoor.Tb

/- Layer 5 (table): count, as Decode calls it. -/
set_option linter.unusedVariables false
set_option linter.unusedSimpArgs false
namespace Go.Proofs.YtdebbanloopcgaaDoor.Tb
open Go Go.RowKit Go.Proofs.YtdebbanloopcgaaDoorW.PrintWords Go.Proofs.YtdebbanloopcgaaDoorW.PrintLast Go.Proofs.YtdebbanloopcgaaDoorW.PrintMore Go.Proofs.YtdebbanloopcgaaDoor.Cz Go.Proofs.YtdebbanloopcgaaDoor.PTableWrites Go.Proofs.YtdebbanloopcgaaDoor.Cf
attribute [local go_sem] max2_int min2_int max_two min_two max_three min_three max_four min_four Tryd.underlying26 Tryd.underlying46 Tryd.underlying57
theorem g2_mk {W W1 W2 : World} {g cb nb : Nat} (h0 : G2 W W1 g cb) (hg : W1.grownBy W2 (some g)) (hn : W.heap.size ≤ nb) (v : Value) : G2 W (W2.setCell ⟨nb, 0, none⟩ v) g cb := by
  have hs := grown_set W2 nb 0 v
  refine ⟨hs.os.trans (hg.os.trans h0.os), hs.tape.trans (hg.tape.trans h0.tape), hs.output.trans (hg.output.trans h0.output), Nat.le_trans h0.size (Nat.le_trans hg.size hs.size), fun k hk h1 h2 => ?_⟩
  have k1 : k < W1.heap.size := Nat.lt_of_lt_of_le hk h0.size
  have k2 : k < W2.heap.size := Nat.lt_of_lt_of_le k1 hg.size
  exact (hs.block k k2 (fun e => by have := Option.some.inj e; omega)).trans ((hg.block k k1 (fun e => h1 (Option.some.inj e))).trans (h0.block k hk h1 h2))
set_option maxHeartbeats 16000000 in
set_option maxRecDepth 100000 in
theorem cntD46_any {W : World} {rq g : Nat} {r : Wi.Rd} (h : DB W rq g r) {cb i : Nat} {cs : Array Value} (hb : W.heap[cb]? = some (.cells cs 26 (0, 0))) (hc : cs[i]? = some (.slice none 0 0)) :
    Calls Tryd.prog 49 #[.func (.func 34) #[] #[.pointer (some ⟨rq, 0, none⟩)], .pointer (some ⟨cb, i, none⟩)] W fun e W' => e = .returned (.tuple #[]) ∧ DB W' rq g (Wi.next r 1) ∧ G2 W W' g cb ∧ ((Wi.nextV r 1 = 0 ∧ W'.heap[cb]? = some (.cells cs 26 (0, 0))) ∨
      (0 < Wi.nextV r 1 ∧ ∃ nb, W.heap.size ≤ nb ∧ W'.heap[cb]? = some (.cells (cs.setIfInBounds i (.slice (some ⟨nb, 0, none⟩) (Wi.nextV r 1).toNat (Wi.nextV r 1).toNat)) 26 (0, 0)) ∧ W'.heap[nb]? = some (.cells (madeCells (Value.cells (.agg #[(.int .i64 0), (.int .i64 0), (.int .i64 0)])) ((Wi.nextV r 1).toNat * 3)) 46 (0, 0)))) := by
  have hv := nextV1_bd h.rd.wf
  have H1 := And.intro (h.far (below_alloc (Below.refl W.heap.size W) (.cells #[.int .i64 0] 3))) (And.intro (blk_new W (.cells #[.int .i64 0] 3)) (blk_alloc hb (.cells #[.int .i64 0] 3)))
  have hg0 : G2 W (W.alloc (.cells #[.int .i64 0] 3)) g cb := G2.bel (below_alloc (Below.refl W.heap.size W) (.cells #[.int .i64 0] 3))
  have hcn : cb ≠ W.heap.size := by have := blk_lt hb; omega
  have hcg := (h.ne hb (by decide) (by decide)).1
  have hc0 := blk_cell' hb hc
  obtain ⟨u, hu⟩ : ∃ u, Wi.nextV r 1 = u := ⟨_, rfl⟩
  rw [hu] at hv ⊢
  have HU := Aside0.mk hu
  clear hu h
  go_enter Tryd.func49, Tryd.ntmps49
  go_upto_region 1 with (first | fail)
  clear hb hc0
  revert H1 hg0
  generalize (W.alloc (.cells #[.int .i64 0] 3)) = W1
  obtain ⟨nb, hnb⟩ : ∃ nb, W.heap.size = nb := ⟨_, rfl⟩
  rw [hnb] at hcn ⊢
  have hnn : W.heap.size ≤ nb := by omega
  clear hnb
  intro H1 hg0
  obtain ⟨H1, hn1, hb1⟩ := H1
  have HE := Aside0.mk (dec1_any H1 1 hn1 (by decide) (by decide) (show (#[Value.int .i64 0] : Array Value)[0]? = some (.int .i64 0) from rfl) ⟨0, rfl⟩)
  have hng := (H1.ne hn1 (by decide) (by decide)).1
  have HN1 := Aside0.mk hn1
  have HB1 := Aside0.mk hb1
  have HG0 := Aside0.mk hg0
  clear H1 hn1 hb1 hg0
  rw [HU.out] at HE
  obtain ⟨hv0, hv1⟩ := hv
  go_upto_region 2 with (first | (go_at_call 34; (with_reducible refine HE.out.mono ?_); rintro e w3 ⟨rfl, w2, hg, hd, rfl⟩; have hn2 := blk_grown HN1.out hg (fun e => hng (Option.some.inj e)); have hb2 := blk_grown HB1.out hg (fun e => hcg (Option.some.inj e)); have H3 := And.intro (hd.kept hn2 (by decide) (by decide) (by decide) (grown_set w2 nb 0 (.int .i64 u))) (And.intro (blk_put hn2 0 (.int .i64 u) rfl) (And.intro (blk_far (p := ⟨nb, 0, none⟩) hb2 hcn (.int .i64 u)) (g2_mk HG0.out hg hnn (.int .i64 u)))); clear hg hd hn2 hb2))
  revert H3
  generalize (World.setCell w2 ⟨nb, 0, none⟩ (.int .i64 u)) = w4
  intro H3
  obtain ⟨H3, hn3, hb3, hg3⟩ := H3
  have s0 := blk_cell' hb3 hc
  have n0 := (blk_cell hn3 0).trans (show _ = some (.int .i64 u) from rfl)
  have HF := Aside0.mk (And.intro H3 (And.intro hn3 (And.intro hb3 hg3)))
  clear H3 hn3 hb3 hg3 HE HN1 HB1 HG0
  have TS := Aside0.mk (fun (W' : World) (hb : Below w4.heap.size w4 W') => And.intro (cell_b s0 hb) (cell_b n0 hb))
  by_cases hz : u = 0
  · subst hz
    go_region_held3 (fun w' => w'.cell? ⟨cb, i, none⟩ = some (.slice none 0 0) ∧ w'.cell? ⟨nb, 0, none⟩ = some (.int .i64 0)) (first | exact TS.out _ (below_drew (Below.refl _ _)) | go_keep) (first | fail)
    all_goals
      go_wp2
      go_end0
      exact ⟨rfl, HF.out.1.far (below_drew (Below.refl _ _)), G2.trans HF.out.2.2.2 (G2.bel (below_drew (Below.refl _ _))), by first | exact Or.inl ⟨rfl, blk_drew HF.out.2.2.1⟩ | exact blk_drew HF.out.2.2.1⟩
  · have z1 : decide ((0 : Int) = u) = false := decide_eq_false (fun e => hz e.symm)
    have z2 : decide (u = 0) = false := decide_eq_false hz
    have z3 : ((0 : Int) == u) = false := beq_eq_false_iff_ne.mpr (fun e => hz e.symm)
    have z4 : ((0 : Int) != u) = true := by simp [bne, z3]
    have hmk : ∀ W : World, Sem.run Tryd.prog (Instr.makeSlice 22 (.int .i64 u) (.int .i64 u)) W = .ok (.slice (some ⟨W.heap.size, 0, none⟩) u.toNat u.toNat) (W.alloc (.cells (madeCells (Value.cells (.agg #[(.int .i64 0), (.int .i64 0), (.int .i64 0)])) (u.toNat * 3)) 46)) := fun W => by
      obtain ⟨i0, hi, hzz⟩ := Option.map_eq_some_iff.1 info46
      simp only [Prod.mk.injEq] at hzz
      obtain ⟨hz0, hz1, hz2⟩ := hzz
      have := run_make (P := Tryd.prog) W 22 46 i0 _ Tryd.underlying22 hi hz0 .i64 .i64 u u hv0 (Int.le_refl _) (by rw [hz2]; omega) (by omega)
      rw [hz1] at this
      exact this
    go_region_held3 (fun w' => w'.cell? ⟨cb, i, none⟩ = some (.slice none 0 0) ∧ w'.cell? ⟨nb, 0, none⟩ = some (.int .i64 u)) (first | exact TS.out _ (below_drew (Below.refl _ _)) | go_keep) (first | fail)
    all_goals
      have hbN := blk_drew (blk_alloc HF.out.2.2.1 (.cells (madeCells #[.int .i64 0, .int .i64 0, .int .i64 0] (u.toNat * 3)) 46))
      have s1 := cell_b s0 (below_drew (Below.refl _ _))
      have n1 := cell_b n0 (below_drew (Below.refl _ _))
      have s2 := blk_cell' hbN hc
      have sf2 := blk_frozen hbN i
      have hnN := blk_drew (blk_new w4 (.cells (madeCells #[.int .i64 0, .int .i64 0, .int .i64 0] (u.toNat * 3)) 46))
      have hbl := below_drew (below_alloc (Below.refl w4.heap.size w4) (.cells (madeCells #[.int .i64 0, .int .i64 0, .int .i64 0] (u.toNat * 3)) 46))
      have hlt := blk_lt HF.out.2.2.1
      have HK := Aside0.mk (And.intro hbN (And.intro hnN (And.intro hbl hlt)))
      clear hbN hnN hbl hlt
      go_wp2
      go_end0
      obtain ⟨k1, k2, k3, k4⟩ := HK.out
      have hsz : W.heap.size ≤ w4.heap.size := HF.out.2.2.2.size
      refine ⟨rfl, (HF.out.1.far k3).kept k1 (by decide) (by decide) (by decide) (grown_set _ cb i _), G2.trans HF.out.2.2.2 (G2.trans (G2.bel k3) (G2.of (grown_set _ cb i _) (Or.inr (Or.inl rfl)))), ?_⟩
      have f1 := blk_set k1 i (.slice (some ⟨w4.heap.size, 0, none⟩) u.toNat u.toNat)
      have f2 := blk_far (p := ⟨cb, i, none⟩) k2 (by show w4.heap.size ≠ cb; omega) (.slice (some ⟨w4.heap.size, 0, none⟩) u.toNat u.toNat)
      have hu0 : 0 < u := by omega
      first | exact Or.inr ⟨hu0, w4.heap.size, hsz, f1, f2⟩ | exact ⟨hu0, w4.heap.size, hsz, f1, f2⟩ | exact ⟨w4.heap.size, hsz, f1, f2⟩
set_option maxHeartbeats 16000000 in
set_option maxRecDepth 100000 in
theorem cntD57_any {W : World} {rq g : Nat} {r : Wi.Rd} (h : DB W rq g r) {cb i : Nat} {cs : Array Value} (hb : W.heap[cb]? = some (.cells cs 26 (0, 0))) (hc : cs[i]? = some (.slice none 0 0)) :
    Calls Tryd.prog 51 #[.func (.func 34) #[] #[.pointer (some ⟨rq, 0, none⟩)], .pointer (some ⟨cb, i, none⟩)] W fun e W' => e = .returned (.tuple #[]) ∧ DB W' rq g (Wi.next r 1) ∧ G2 W W' g cb ∧ ((Wi.nextV r 1 = 0 ∧ W'.heap[cb]? = some (.cells cs 26 (0, 0))) ∨
      (0 < Wi.nextV r 1 ∧ ∃ nb, W.heap.size ≤ nb ∧ W'.heap[cb]? = some (.cells (cs.setIfInBounds i (.slice (some ⟨nb, 0, none⟩) (Wi.nextV r 1).toNat (Wi.nextV r 1).toNat)) 26 (0, 0)) ∧ W'.heap[nb]? = some (.cells (madeCells (Value.cells (.agg #[(.int .i64 0), (.int .i64 0), (.int .i64 0), (.int .i64 0), (.int .i64 0), (.int .i64 0), (.int .i64 0), (.int .i64 0), (.int .i64 0), (.int .i64 0), (.int .i64 0)])) ((Wi.nextV r 1).toNat * 11)) 57 (0, 0)))) := by
  have hv := nextV1_bd h.rd.wf
  have H1 := And.intro (h.far (below_alloc (Below.refl W.heap.size W) (.cells #[.int .i64 0] 3))) (And.intro (blk_new W (.cells #[.int .i64 0] 3)) (blk_alloc hb (.cells #[.int .i64 0] 3)))
  have hg0 : G2 W (W.alloc (.cells #[.int .i64 0] 3)) g cb := G2.bel (below_alloc (Below.refl W.heap.size W) (.cells #[.int .i64 0] 3))
  have hcn : cb ≠ W.heap.size := by have := blk_lt hb; omega
  have hcg := (h.ne hb (by decide) (by decide)).1
  have hc0 := blk_cell' hb hc
  obtain ⟨u, hu⟩ : ∃ u, Wi.nextV r 1 = u := ⟨_, rfl⟩
  rw [hu] at hv ⊢
  have HU := Aside0.mk hu
  clear hu h
  go_enter Tryd.func51, Tryd.ntmps51
  go_upto_region 1 with (first | fail)
  clear hb hc0
  revert H1 hg0
  generalize (W.alloc (.cells #[.int .i64 0] 3)) = W1
  obtain ⟨nb, hnb⟩ : ∃ nb, W.heap.size = nb := ⟨_, rfl⟩
  rw [hnb] at hcn ⊢
  have hnn : W.heap.size ≤ nb := by omega
  clear hnb
  intro H1 hg0
  obtain ⟨H1, hn1, hb1⟩ := H1
  have HE := Aside0.mk (dec1_any H1 1 hn1 (by decide) (by decide) (show (#[Value.int .i64 0] : Array Value)[0]? = some (.int .i64 0) from rfl) ⟨0, rfl⟩)
  have hng := (H1.ne hn1 (by decide) (by decide)).1
  have HN1 := Aside0.mk hn1
  have HB1 := Aside0.mk hb1
  have HG0 := Aside0.mk hg0
  clear H1 hn1 hb1 hg0
  rw [HU.out] at HE
  obtain ⟨hv0, hv1⟩ := hv
  go_upto_region 2 with (first | (go_at_call 34; (with_reducible refine HE.out.mono ?_); rintro e w3 ⟨rfl, w2, hg, hd, rfl⟩; have hn2 := blk_grown HN1.out hg (fun e => hng (Option.some.inj e)); have hb2 := blk_grown HB1.out hg (fun e => hcg (Option.some.inj e)); have H3 := And.intro (hd.kept hn2 (by decide) (by decide) (by decide) (grown_set w2 nb 0 (.int .i64 u))) (And.intro (blk_put hn2 0 (.int .i64 u) rfl) (And.intro (blk_far (p := ⟨nb, 0, none⟩) hb2 hcn (.int .i64 u)) (g2_mk HG0.out hg hnn (.int .i64 u)))); clear hg hd hn2 hb2))
  revert H3
  generalize (World.setCell w2 ⟨nb, 0, none⟩ (.int .i64 u)) = w4
  intro H3
  obtain ⟨H3, hn3, hb3, hg3⟩ := H3
  have s0 := blk_cell' hb3 hc
  have n0 := (blk_cell hn3 0).trans (show _ = some (.int .i64 u) from rfl)
  have HF := Aside0.mk (And.intro H3 (And.intro hn3 (And.intro hb3 hg3)))
  clear H3 hn3 hb3 hg3 HE HN1 HB1 HG0
  have TS := Aside0.mk (fun (W' : World) (hb : Below w4.heap.size w4 W') => And.intro (cell_b s0 hb) (cell_b n0 hb))
  by_cases hz : u = 0
  · subst hz
    go_region_held3 (fun w' => w'.cell? ⟨cb, i, none⟩ = some (.slice none 0 0) ∧ w'.cell? ⟨nb, 0, none⟩ = some (.int .i64 0)) (first | exact TS.out _ (below_drew (Below.refl _ _)) | go_keep) (first | fail)
    all_goals
      go_wp2
      go_end0
      exact ⟨rfl, HF.out.1.far (below_drew (Below.refl _ _)), G2.trans HF.out.2.2.2 (G2.bel (below_drew (Below.refl _ _))), by first | exact Or.inl ⟨rfl, blk_drew HF.out.2.2.1⟩ | exact blk_drew HF.out.2.2.1⟩
  · have z1 : decide ((0 : Int) = u) = false := decide_eq_false (fun e => hz e.symm)
    have z2 : decide (u = 0) = false := decide_eq_false hz
    have z3 : ((0 : Int) == u) = false := beq_eq_false_iff_ne.mpr (fun e => hz e.symm)
    have z4 : ((0 : Int) != u) = true := by simp [bne, z3]
    have hmk : ∀ W : World, Sem.run Tryd.prog (Instr.makeSlice 23 (.int .i64 u) (.int .i64 u)) W = .ok (.slice (some ⟨W.heap.size, 0, none⟩) u.toNat u.toNat) (W.alloc (.cells (madeCells (Value.cells (.agg #[(.int .i64 0), (.int .i64 0), (.int .i64 0), (.int .i64 0), (.int .i64 0), (.int .i64 0), (.int .i64 0), (.int .i64 0), (.int .i64 0), (.int .i64 0), (.int .i64 0)])) (u.toNat * 11)) 57)) := fun W => by
      obtain ⟨i0, hi, hzz⟩ := Option.map_eq_some_iff.1 info57
      simp only [Prod.mk.injEq] at hzz
      obtain ⟨hz0, hz1, hz2⟩ := hzz
      have := run_make (P := Tryd.prog) W 23 57 i0 _ Tryd.underlying23 hi hz0 .i64 .i64 u u hv0 (Int.le_refl _) (by rw [hz2]; omega) (by omega)
      rw [hz1] at this
      exact this
    go_region_held3 (fun w' => w'.cell? ⟨cb, i, none⟩ = some (.slice none 0 0) ∧ w'.cell? ⟨nb, 0, none⟩ = some (.int .i64 u)) (first | exact TS.out _ (below_drew (Below.refl _ _)) | go_keep) (first | fail)
    all_goals
      have hbN := blk_drew (blk_alloc HF.out.2.2.1 (.cells (madeCells #[.int .i64 0, .int .i64 0, .int .i64 0, .int .i64 0, .int .i64 0, .int .i64 0, .int .i64 0, .int .i64 0, .int .i64 0, .int .i64 0, .int .i64 0] (u.toNat * 11)) 57))
      have s1 := cell_b s0 (below_drew (Below.refl _ _))
      have n1 := cell_b n0 (below_drew (Below.refl _ _))
      have s2 := blk_cell' hbN hc
      have sf2 := blk_frozen hbN i
      have hnN := blk_drew (blk_new w4 (.cells (madeCells #[.int .i64 0, .int .i64 0, .int .i64 0, .int .i64 0, .int .i64 0, .int .i64 0, .int .i64 0, .int .i64 0, .int .i64 0, .int .i64 0, .int .i64 0] (u.toNat * 11)) 57))
      have hbl := below_drew (below_alloc (Below.refl w4.heap.size w4) (.cells (madeCells #[.int .i64 0, .int .i64 0, .int .i64 0, .int .i64 0, .int .i64 0, .int .i64 0, .int .i64 0, .int .i64 0, .int .i64 0, .int .i64 0, .int .i64 0] (u.toNat * 11)) 57))
      have hlt := blk_lt HF.out.2.2.1
      have HK := Aside0.mk (And.intro hbN (And.intro hnN (And.intro hbl hlt)))
      clear hbN hnN hbl hlt
      go_wp2
      go_end0
      obtain ⟨k1, k2, k3, k4⟩ := HK.out
      have hsz : W.heap.size ≤ w4.heap.size := HF.out.2.2.2.size
      refine ⟨rfl, (HF.out.1.far k3).kept k1 (by decide) (by decide) (by decide) (grown_set _ cb i _), G2.trans HF.out.2.2.2 (G2.trans (G2.bel k3) (G2.of (grown_set _ cb i _) (Or.inr (Or.inl rfl)))), ?_⟩
      have f1 := blk_set k1 i (.slice (some ⟨w4.heap.size, 0, none⟩) u.toNat u.toNat)
      have f2 := blk_far (p := ⟨cb, i, none⟩) k2 (by show w4.heap.size ≠ cb; omega) (.slice (some ⟨w4.heap.size, 0, none⟩) u.toNat u.toNat)
      have hu0 : 0 < u := by omega
      first | exact Or.inr ⟨hu0, w4.heap.size, hsz, f1, f2⟩ | exact ⟨hu0, w4.heap.size, hsz, f1, f2⟩ | exact ⟨w4.heap.size, hsz, f1, f2⟩
set_option maxHeartbeats 16000000 in
set_option maxRecDepth 100000 in
theorem cntD3_any {W : World} {rq g : Nat} {r : Wi.Rd} (h : DB W rq g r) {cb i : Nat} {cs : Array Value} (hb : W.heap[cb]? = some (.cells cs 26 (0, 0))) (hc : cs[i]? = some (.slice none 0 0)) :
    Calls Tryd.prog 52 #[.func (.func 34) #[] #[.pointer (some ⟨rq, 0, none⟩)], .pointer (some ⟨cb, i, none⟩)] W fun e W' => e = .returned (.tuple #[]) ∧ DB W' rq g (Wi.next r 1) ∧ G2 W W' g cb ∧ ((Wi.nextV r 1 = 0 ∧ W'.heap[cb]? = some (.cells cs 26 (0, 0))) ∨
      (0 < Wi.nextV r 1 ∧ ∃ nb, W.heap.size ≤ nb ∧ W'.heap[cb]? = some (.cells (cs.setIfInBounds i (.slice (some ⟨nb, 0, none⟩) (Wi.nextV r 1).toNat (Wi.nextV r 1).toNat)) 26 (0, 0)) ∧ W'.heap[nb]? = some (.cells (madeCells (Value.cells (.int .i64 0)) ((Wi.nextV r 1).toNat)) 3 (0, 0)))) := by
  have hv := nextV1_bd h.rd.wf
  have H1 := And.intro (h.far (below_alloc (Below.refl W.heap.size W) (.cells #[.int .i64 0] 3))) (And.intro (blk_new W (.cells #[.int .i64 0] 3)) (blk_alloc hb (.cells #[.int .i64 0] 3)))
  have hg0 : G2 W (W.alloc (.cells #[.int .i64 0] 3)) g cb := G2.bel (below_alloc (Below.refl W.heap.size W) (.cells #[.int .i64 0] 3))
  have hcn : cb ≠ W.heap.size := by have := blk_lt hb; omega
  have hcg := (h.ne hb (by decide) (by decide)).1
  have hc0 := blk_cell' hb hc
  obtain ⟨u, hu⟩ : ∃ u, Wi.nextV r 1 = u := ⟨_, rfl⟩
  rw [hu] at hv ⊢
  have HU := Aside0.mk hu
  clear hu h
  go_enter Tryd.func52, Tryd.ntmps52
  go_upto_region 1 with (first | fail)
  clear hb hc0
  revert H1 hg0
  generalize (W.alloc (.cells #[.int .i64 0] 3)) = W1
  obtain ⟨nb, hnb⟩ : ∃ nb, W.heap.size = nb := ⟨_, rfl⟩
  rw [hnb] at hcn ⊢
  have hnn : W.heap.size ≤ nb := by omega
  clear hnb
  intro H1 hg0
  obtain ⟨H1, hn1, hb1⟩ := H1
  have HE := Aside0.mk (dec1_any H1 1 hn1 (by decide) (by decide) (show (#[Value.int .i64 0] : Array Value)[0]? = some (.int .i64 0) from rfl) ⟨0, rfl⟩)
  have hng := (H1.ne hn1 (by decide) (by decide)).1
  have HN1 := Aside0.mk hn1
  have HB1 := Aside0.mk hb1
  have HG0 := Aside0.mk hg0
  clear H1 hn1 hb1 hg0
  rw [HU.out] at HE
  obtain ⟨hv0, hv1⟩ := hv
  go_upto_region 2 with (first | (go_at_call 34; (with_reducible refine HE.out.mono ?_); rintro e w3 ⟨rfl, w2, hg, hd, rfl⟩; have hn2 := blk_grown HN1.out hg (fun e => hng (Option.some.inj e)); have hb2 := blk_grown HB1.out hg (fun e => hcg (Option.some.inj e)); have H3 := And.intro (hd.kept hn2 (by decide) (by decide) (by decide) (grown_set w2 nb 0 (.int .i64 u))) (And.intro (blk_put hn2 0 (.int .i64 u) rfl) (And.intro (blk_far (p := ⟨nb, 0, none⟩) hb2 hcn (.int .i64 u)) (g2_mk HG0.out hg hnn (.int .i64 u)))); clear hg hd hn2 hb2))
  revert H3
  generalize (World.setCell w2 ⟨nb, 0, none⟩ (.int .i64 u)) = w4
  intro H3
  obtain ⟨H3, hn3, hb3, hg3⟩ := H3
  have s0 := blk_cell' hb3 hc
  have n0 := (blk_cell hn3 0).trans (show _ = some (.int .i64 u) from rfl)
  have HF := Aside0.mk (And.intro H3 (And.intro hn3 (And.intro hb3 hg3)))
  clear H3 hn3 hb3 hg3 HE HN1 HB1 HG0
  have TS := Aside0.mk (fun (W' : World) (hb : Below w4.heap.size w4 W') => And.intro (cell_b s0 hb) (cell_b n0 hb))
  by_cases hz : u = 0
  · subst hz
    go_region_held3 (fun w' => w'.cell? ⟨cb, i, none⟩ = some (.slice none 0 0) ∧ w'.cell? ⟨nb, 0, none⟩ = some (.int .i64 0)) (first | exact TS.out _ (below_drew (Below.refl _ _)) | go_keep) (first | fail)
    all_goals
      go_wp2
      go_end0
      exact ⟨rfl, HF.out.1.far (below_drew (Below.refl _ _)), G2.trans HF.out.2.2.2 (G2.bel (below_drew (Below.refl _ _))), by first | exact Or.inl ⟨rfl, blk_drew HF.out.2.2.1⟩ | exact blk_drew HF.out.2.2.1⟩
  · have z1 : decide ((0 : Int) = u) = false := decide_eq_false (fun e => hz e.symm)
    have z2 : decide (u = 0) = false := decide_eq_false hz
    have z3 : ((0 : Int) == u) = false := beq_eq_false_iff_ne.mpr (fun e => hz e.symm)
    have z4 : ((0 : Int) != u) = true := by simp [bne, z3]
    have hmk : ∀ W : World, Sem.run Tryd.prog (Instr.makeSlice 24 (.int .i64 u) (.int .i64 u)) W = .ok (.slice (some ⟨W.heap.size, 0, none⟩) u.toNat u.toNat) (W.alloc (.cells (madeCells (Value.cells (.int .i64 0)) (u.toNat)) 3)) := fun W => by
      obtain ⟨i0, hi, hzz⟩ := Option.map_eq_some_iff.1 info3
      simp only [Prod.mk.injEq] at hzz
      obtain ⟨hz0, hz1, hz2⟩ := hzz
      have := run_make (P := Tryd.prog) W 24 3 i0 _ Tryd.underlying24 hi hz0 .i64 .i64 u u hv0 (Int.le_refl _) (by rw [hz2]; omega) (by omega)
      rw [hz1, Nat.mul_one] at this
      exact this
    go_region_held3 (fun w' => w'.cell? ⟨cb, i, none⟩ = some (.slice none 0 0) ∧ w'.cell? ⟨nb, 0, none⟩ = some (.int .i64 u)) (first | exact TS.out _ (below_drew (Below.refl _ _)) | go_keep) (first | fail)
    all_goals
      have hbN := blk_drew (blk_alloc HF.out.2.2.1 (.cells (madeCells #[.int .i64 0] (u.toNat)) 3))
      have s1 := cell_b s0 (below_drew (Below.refl _ _))
      have n1 := cell_b n0 (below_drew (Below.refl _ _))
      have s2 := blk_cell' hbN hc
      have sf2 := blk_frozen hbN i
      have hnN := blk_drew (blk_new w4 (.cells (madeCells #[.int .i64 0] (u.toNat)) 3))
      have hbl := below_drew (below_alloc (Below.refl w4.heap.size w4) (.cells (madeCells #[.int .i64 0] (u.toNat)) 3))
      have hlt := blk_lt HF.out.2.2.1
      have HK := Aside0.mk (And.intro hbN (And.intro hnN (And.intro hbl hlt)))
      clear hbN hnN hbl hlt
      go_wp2
      go_end0
      obtain ⟨k1, k2, k3, k4⟩ := HK.out
      have hsz : W.heap.size ≤ w4.heap.size := HF.out.2.2.2.size
      refine ⟨rfl, (HF.out.1.far k3).kept k1 (by decide) (by decide) (by decide) (grown_set _ cb i _), G2.trans HF.out.2.2.2 (G2.trans (G2.bel k3) (G2.of (grown_set _ cb i _) (Or.inr (Or.inl rfl)))), ?_⟩
      have f1 := blk_set k1 i (.slice (some ⟨w4.heap.size, 0, none⟩) u.toNat u.toNat)
      have f2 := blk_far (p := ⟨cb, i, none⟩) k2 (by show w4.heap.size ≠ cb; omega) (.slice (some ⟨w4.heap.size, 0, none⟩) u.toNat u.toNat)
      have hu0 : 0 < u := by omega
      first | exact Or.inr ⟨hu0, w4.heap.size, hsz, f1, f2⟩ | exact ⟨hu0, w4.heap.size, hsz, f1, f2⟩ | exact ⟨w4.heap.size, hsz, f1, f2⟩
end Go.Proofs.YtdebbanloopcgaaDoor.Tb

/- Layer 5 (table): owner, as Decode calls it. -/
set_option linter.unusedVariables false
set_option linter.unusedSimpArgs false
namespace Go.Proofs.YtdebbanloopcgaaDoor.Tb
open Go Go.RowKit Go.Proofs.YtdebbanloopcgaaDoorW.PrintWords Go.Proofs.YtdebbanloopcgaaDoorW.PrintLast Go.Proofs.YtdebbanloopcgaaDoorW.PrintMore Go.Proofs.YtdebbanloopcgaaDoor.Cz Go.Proofs.YtdebbanloopcgaaDoor.PTableWrites Go.Proofs.YtdebbanloopcgaaDoor.Cf
attribute [local go_sem] max2_int min2_int max_two min_two max_three min_three max_four min_four Tryd.underlying26 Tryd.underlying46 Tryd.underlying57
def ownR (v : Int) : Int := if v = 255 then -1 else v
theorem set_twice {cs : Array Value} {i : Nat} {x u : Value} : (cs.setIfInBounds i x).setIfInBounds i u = cs.setIfInBounds i u := by
  apply Array.ext_getElem?
  intro j
  rw [Array.getElem?_setIfInBounds, Array.getElem?_setIfInBounds, Array.getElem?_setIfInBounds, Array.size_setIfInBounds]
  split
  · rfl
  · rfl
set_option maxHeartbeats 16000000 in
set_option maxRecDepth 100000 in
theorem ownD_any {W : World} {rq g : Nat} {r : Wi.Rd} (h : DB W rq g r) {gw off : Nat} {cs : Array Value} (hb : W.heap[gw]? = some (.cells cs 46 (0, 0))) (hc : cs[off]? = some (.int .i64 0)) :
    Calls Tryd.prog 50 #[.func (.func 34) #[] #[.pointer (some ⟨rq, 0, none⟩)], .pointer (some ⟨gw, off, none⟩)] W fun e W' => e = .returned (.tuple #[]) ∧ DB W' rq g (Wi.next r 1) ∧ G2 W W' g gw ∧ W'.heap[gw]? = some (.cells (cs.setIfInBounds off (.int .i64 (ownR (Wi.nextV r 1)))) 46 (0, 0)) := by
  have H1 := And.intro (h.far (below_alloc (Below.refl W.heap.size W) (.cells #[.int .i64 0] 3))) (And.intro (blk_new W (.cells #[.int .i64 0] 3)) (blk_alloc hb (.cells #[.int .i64 0] 3)))
  have hg0 : G2 W (W.alloc (.cells #[.int .i64 0] 3)) g gw := G2.bel (below_alloc (Below.refl W.heap.size W) (.cells #[.int .i64 0] 3))
  have hcn : gw ≠ W.heap.size := by have := blk_lt hb; omega
  have hcg := (h.ne hb (by decide) (by decide)).1
  have hc0 := blk_cell' hb hc
  obtain ⟨u, hu⟩ : ∃ u, Wi.nextV r 1 = u := ⟨_, rfl⟩
  rw [hu]
  have HU := Aside0.mk hu
  clear hu h
  go_enter Tryd.func50, Tryd.ntmps50
  go_upto_region 1 with (first | fail)
  clear hb hc0
  revert H1 hg0
  generalize (W.alloc (.cells #[.int .i64 0] 3)) = W1
  obtain ⟨nb, hnb⟩ : ∃ nb, W.heap.size = nb := ⟨_, rfl⟩
  rw [hnb] at hcn ⊢
  have hnn : W.heap.size ≤ nb := by omega
  clear hnb
  intro H1 hg0
  obtain ⟨H1, hn1, hb1⟩ := H1
  have n1 := (blk_cell hn1 0).trans (show _ = some (.int .i64 0) from rfl)
  have HE := Aside0.mk (dec1_any H1 1 hn1 (by decide) (by decide) (show (#[Value.int .i64 0] : Array Value)[0]? = some (.int .i64 0) from rfl) ⟨0, rfl⟩)
  have hng := (H1.ne hn1 (by decide) (by decide)).1
  have HN1 := Aside0.mk hn1
  have HB1 := Aside0.mk hb1
  have HG0 := Aside0.mk hg0
  clear H1 hn1 hb1 hg0
  rw [HU.out] at HE
  go_upto_region 4 with (first | (go_at_call 34; (with_reducible refine HE.out.mono ?_); rintro e w3 ⟨rfl, w2, hg, hd, rfl⟩; have hn2 := blk_grown HN1.out hg (fun e => hng (Option.some.inj e)); have hb2 := blk_grown HB1.out hg (fun e => hcg (Option.some.inj e)); have H3 := And.intro (hd.kept hn2 (by decide) (by decide) (by decide) (grown_set w2 nb 0 (.int .i64 u))) (And.intro (blk_put hn2 0 (.int .i64 u) rfl) (And.intro (blk_far (p := ⟨nb, 0, none⟩) hb2 hcn (.int .i64 u)) (g2_mk HG0.out hg hnn (.int .i64 u)))); clear hg hd hn2 hb2 n1))
  revert H3
  generalize (World.setCell w2 ⟨nb, 0, none⟩ (.int .i64 u)) = w4
  intro H3
  obtain ⟨H3, hn3, hb3, hg3⟩ := H3
  have s0 := blk_cell' hb3 hc
  have n0 := (blk_cell hn3 0).trans (show _ = some (.int .i64 u) from rfl)
  have sf := blk_frozen hb3 off
  have n4 := (blk_cell (blk_far (p := ⟨gw, off, none⟩) hn3 (fun e => hcn e.symm) (.int .i64 u)) 0).trans (show _ = some (.int .i64 u) from rfl)
  have hoff : off < cs.size := (Array.getElem?_eq_some_iff.1 hc).1
  have HF := Aside0.mk (And.intro H3 (And.intro hb3 hg3))
  clear H3 hg3 HE HN1 HB1 HG0
  by_cases hz : u = 255
  · subst hz
    have s4 : (w4.setCell ⟨gw, off, none⟩ (.int .i64 255)).cell? ⟨gw, off, none⟩ = some (.int .i64 255) := (blk_cell (blk_set hb3 off (.int .i64 255)) off).trans (by rw [Array.getElem?_setIfInBounds]; simp [hoff])
    have sf4 := blk_frozen (blk_set hb3 off (.int .i64 255)) off
    clear hb3 hn3 hoff
    go_wp2
    go_end0
    exact ⟨rfl, (HF.out.1.kept HF.out.2.1 (by decide) (by decide) (by decide) (grown_set _ gw off _)).kept (blk_set HF.out.2.1 off _) (by decide) (by decide) (by decide) (grown_set _ gw off _), G2.trans HF.out.2.2 (G2.trans (G2.of (grown_set _ gw off _) (Or.inr (Or.inl rfl))) (G2.of (grown_set _ gw off _) (Or.inr (Or.inl rfl)))), blk_put (blk_set HF.out.2.1 off _) off _ set_twice⟩
  · have HO : Aside0 (ownR u = u) := ⟨by unfold ownR; rw [if_neg hz]⟩
    have z1 : decide (u = 255) = false := decide_eq_false hz
    have z2 : (u == 255) = false := beq_eq_false_iff_ne.mpr hz
    clear hb3 hn3 hoff
    go_wp2
    go_end0
    exact ⟨rfl, HF.out.1.kept HF.out.2.1 (by decide) (by decide) (by decide) (grown_set _ gw off _), G2.trans HF.out.2.2 (G2.of (grown_set _ gw off _) (Or.inr (Or.inl rfl))), by rw [HO.out]; exact blk_set HF.out.2.1 off _⟩
end Go.Proofs.YtdebbanloopcgaaDoor.Tb

/- Layer 5 (table): a row of structs of numbers as one flat row. -/
set_option linter.unusedVariables false
set_option linter.unusedSimpArgs false
namespace Go.Proofs.YtdebbanloopcgaaDoor.Tb
open Go Go.RowKit Go.Proofs.YtdebbanloopcgaaDoorW.PrintWords Go.Proofs.YtdebbanloopcgaaDoorW.PrintLast Go.Proofs.YtdebbanloopcgaaDoorW.PrintMore Go.Proofs.YtdebbanloopcgaaDoor.Cz Go.Proofs.YtdebbanloopcgaaDoor.PTableWrites Go.Proofs.YtdebbanloopcgaaDoor.Cf
/-- A block holds these numbers. -/
def RW (W : World) (T nb : Nat) (vs : List Int) : Prop := ∃ cs : Array Value, W.heap[nb]? = some (.cells cs T (0, 0)) ∧ cs.size = vs.length ∧ ∀ (k : Nat) (x : Int), vs[k]? = some x → cs[k]? = some (.int .i64 x)
section
variable {W W' : World} {T nb : Nat} {vs : List Int}
theorem RW.far (h : RW W T nb vs) (hb : Below W.heap.size W W') : RW W' T nb vs := by
  obtain ⟨cs, h1, h2, h3⟩ := h
  exact ⟨cs, blk_below h1 hb, h2, h3⟩
theorem RW.same (h : RW W T nb vs) (hb : W'.heap[nb]? = W.heap[nb]?) : RW W' T nb vs := by
  obtain ⟨cs, h1, h2, h3⟩ := h
  exact ⟨cs, hb.trans h1, h2, h3⟩
theorem RW.put (h : RW W T nb vs) {k : Nat} (x : Int) : RW (W.setCell ⟨nb, k, none⟩ (.int .i64 x)) T nb (vs.set k x) := by
  obtain ⟨cs, h1, h2, h3⟩ := h
  refine ⟨_, blk_set h1 k (.int .i64 x), by rw [Array.size_setIfInBounds, List.length_set, h2], fun j y hj => ?_⟩
  rw [Array.getElem?_setIfInBounds]
  rw [List.getElem?_set] at hj
  split at hj
  · rename_i hkj
    subst hkj
    split at hj
    · rename_i hl
      rw [if_pos rfl, if_pos (by omega), ← Option.some.inj hj]
    · cases hj
  · rename_i hkj
    rw [if_neg hkj]
    exact h3 j y hj
theorem RW.blk (h : RW W T nb vs) {k : Nat} (hk : k < vs.length) : ∃ cs : Array Value, W.heap[nb]? = some (.cells cs T (0, 0)) ∧ cs[k]? = some (.int .i64 vs[k]) := by
  obtain ⟨cs, h1, h2, h3⟩ := h
  exact ⟨cs, h1, h3 k _ (List.getElem?_eq_getElem hk)⟩
end
end Go.Proofs.YtdebbanloopcgaaDoor.Tb

/- Layer 5 (table): what is read, in plain words; the memory while it is read. -/
set_option linter.unusedVariables false
set_option linter.unusedSimpArgs false
namespace Go.Proofs.YtdebbanloopcgaaDoor.Tb
open Go Go.RowKit Go.Proofs.YtdebbanloopcgaaDoorW.PrintWords Go.Proofs.YtdebbanloopcgaaDoorW.PrintLast Go.Proofs.YtdebbanloopcgaaDoorW.PrintMore Go.Proofs.YtdebbanloopcgaaDoor.Cz Go.Proofs.YtdebbanloopcgaaDoor.PTableWrites Go.Proofs.YtdebbanloopcgaaDoor.Cf
attribute [local go_sem] max2_int min2_int max_two min_two max_three min_three max_four min_four Tryd.underlying26 Tryd.underlying46 Tryd.underlying57
/-! Plain words. -/
def nx (r : Wi.Rd) : List Int → Wi.Rd
  | [] => r
  | n :: t => nx (Wi.next r n) t
def vl (r : Wi.Rd) : List Int → List Int
  | [] => []
  | n :: t => Wi.nextV r n :: vl (Wi.next r n) t
def kw : List Int := [1, 1, 1, 1, 4, 1, 1, 1, 4, 1, 1]
def itR (f : Wi.Rd → Wi.Rd) (r : Wi.Rd) : Nat → Wi.Rd
  | 0 => r
  | j + 1 => f (itR f r j)
def liR {α : Type} (f : Wi.Rd → Wi.Rd) (g : Wi.Rd → α) (r : Wi.Rd) : Nat → List α
  | 0 => []
  | j + 1 => liR f g r j ++ [g (itR f r j)]
def nxW (r : Wi.Rd) : Wi.Rd := nx r [1, 1, 1]
def rdW (r : Wi.Rd) : S46 := ⟨ownR (Wi.nextV r 1), Wi.nextV (nx r [1]) 1, Wi.nextV (nx r [1, 1]) 1⟩
def nxK (r : Wi.Rd) : Wi.Rd := nx r kw
def rdK (r : Wi.Rd) : S57 := ⟨Wi.nextV r 1, Wi.nextV (nx r [1]) 1, Wi.nextV (nx r [1, 1]) 1, Wi.nextV (nx r [1, 1, 1]) 1, Wi.nextV (nx r [1, 1, 1, 1]) 4, Wi.nextV (nx r [1, 1, 1, 1, 4]) 1, Wi.nextV (nx r [1, 1, 1, 1, 4, 1]) 1, Wi.nextV (nx r [1, 1, 1, 1, 4, 1, 1]) 1, Wi.nextV (nx r [1, 1, 1, 1, 4, 1, 1, 1]) 4, Wi.nextV (nx r [1, 1, 1, 1, 4, 1, 1, 1, 4]) 1, Wi.nextV (nx r [1, 1, 1, 1, 4, 1, 1, 1, 4, 1]) 1⟩
def nxA (r : Wi.Rd) : Wi.Rd := Wi.next r 1
def rdA (r : Wi.Rd) : Int := Wi.nextV r 1
def flW (x : S46) : List Int := [x.f0, x.f1, x.f2]
def flK (x : S57) : List Int := [x.f0, x.f1, x.f2, x.f3, x.f4, x.f5, x.f6, x.f7, x.f8, x.f9, x.f10]
def flA (x : Int) : List Int := [x]
def dW (r : Wi.Rd) : Wi.Rd := nx r [1, 1, 1]
def mW (r : Wi.Rd) : Nat := (Wi.nextV (nx r [1, 1]) 1).toNat
def eW (r : Wi.Rd) : Wi.Rd := itR nxW (dW r) (mW r)
def mK (r : Wi.Rd) : Nat := (Wi.nextV (eW r) 1).toNat
def dK (r : Wi.Rd) : Wi.Rd := Wi.next (eW r) 1
def eK (r : Wi.Rd) : Wi.Rd := itR nxK (dK r) (mK r)
def mA (r : Wi.Rd) : Nat := (Wi.nextV (eK r) 1).toNat
def dA (r : Wi.Rd) : Wi.Rd := Wi.next (eK r) 1
/-- The reader behind a config. -/
def eA (r : Wi.Rd) : Wi.Rd := itR nxA (dA r) (mA r)
/-- The config that is read. -/
def decC (r : Wi.Rd) : Cfg := ⟨Wi.nextV r 1, Wi.nextV (nx r [1]) 1, liR nxW rdW (dW r) (mW r), liR nxK rdK (dK r) (mK r), liR nxA rdA (dA r) (mA r)⟩
theorem liR_len {α : Type} {f : Wi.Rd → Wi.Rd} {g : Wi.Rd → α} {r : Wi.Rd} : ∀ j, (liR f g r j).length = j
  | 0 => rfl
  | j + 1 => by show (liR f g r j ++ [g (itR f r j)]).length = j + 1; rw [List.length_append, liR_len j]; rfl
/-- Numbers are laid one behind the other from k on. -/
def setAll (xs : List Int) (k : Nat) : List Int → List Int
  | [] => xs
  | v :: t => setAll (xs.set k v) (k + 1) t
theorem setAll_len : ∀ {vs xs : List Int} {k : Nat}, (setAll xs k vs).length = xs.length
  | [], _, _ => rfl
  | v :: t, xs, k => by show (setAll (xs.set k v) (k + 1) t).length = _; rw [setAll_len, List.length_set]
theorem setAll_app : ∀ {vs Z A R : List Int} {k : Nat}, A.length = k → Z.length = vs.length → setAll (A ++ (Z ++ R)) k vs = A ++ (vs ++ R)
  | [], [], A, R, k, _, _ => rfl
  | [], _ :: _, _, _, _, _, h => by simp at h
  | v :: t, [], _, _, _, _, h => by simp at h
  | v :: t, z :: Z, A, R, k, hk, h => by
    show setAll ((A ++ (z :: (Z ++ R))).set k v) (k + 1) t = _
    rw [List.set_append, if_neg (by omega), show k - A.length = 0 by omega, List.set_cons_zero]
    rw [show A ++ v :: (Z ++ R) = (A ++ [v]) ++ (Z ++ R) by simp, setAll_app (by simp; omega) (by simpa using h)]
    simp
theorem flatL {α : Type} {g : α → List Int} {n : Nat} (h : ∀ x, (g x).length = n) : ∀ l : List α, (l.flatMap g).length = l.length * n
  | [] => by simp
  | x :: t => by rw [List.flatMap_cons, List.length_append, h, flatL h t, List.length_cons, Nat.succ_mul]; omega
/-- What is read so far, then zeros. -/
def soFar {α : Type} (n : Nat) (fl : α → List Int) (l : List α) (m : Nat) : List Int := l.flatMap fl ++ List.replicate ((m - l.length) * n) 0
theorem soFar_len {α : Type} {n : Nat} {fl : α → List Int} (h : ∀ x, (fl x).length = n) {l : List α} {m : Nat} (hl : l.length ≤ m) : (soFar n fl l m).length = m * n := by
  unfold soFar
  rw [List.length_append, flatL h, List.length_replicate, ← Nat.add_mul]
  congr 1
  omega
theorem soFar_all {α : Type} {n : Nat} {fl : α → List Int} {l : List α} {m : Nat} (hl : l.length = m) : soFar n fl l m = l.flatMap fl := by
  unfold soFar
  rw [hl]
  simp
theorem soFar_set {α : Type} {n : Nat} {fl : α → List Int} (h : ∀ x, (fl x).length = n) {l : List α} {m : Nat} (hl : l.length < m) (x : α) {vs : List Int} (hv : vs = fl x) : setAll (soFar n fl l m) (l.length * n) vs = soFar n fl (l ++ [x]) m := by
  subst hv
  unfold soFar
  have e : (m - l.length) * n = n + (m - (l ++ [x]).length) * n := by
    rw [show m - l.length = (m - (l ++ [x]).length) + 1 by simp; omega, Nat.add_mul]
    omega
  rw [e, ← List.replicate_append_replicate, setAll_app (flatL h l) (by rw [List.length_replicate, h])]
  simp
theorem soFar_zero {α : Type} {n : Nat} {fl : α → List Int} {l : List α} (h : ∀ x, (fl x).length = n) {m : Nat} (hl : l.length < m) {i : Nat} (hi : i < n) : (soFar n fl l m)[l.length * n + i]? = some 0 := by
  unfold soFar
  have h1 := flatL h l
  rw [List.getElem?_append_right (by omega), h1, List.getElem?_replicate, if_pos]
  have : 1 * n ≤ (m - l.length) * n := Nat.mul_le_mul_right n (by omega)
  omega
theorem flW_len (x : S46) : (flW x).length = 3 := rfl
theorem flK_len (x : S57) : (flK x).length = 11 := rfl
theorem flA_len (x : Int) : (flA x).length = 1 := rfl
/-- One channel's numbers, the first i of them. -/
def KX (x : List Int) (k : Nat) (r : Wi.Rd) (i : Nat) : List Int := setAll x k ((vl r kw).take i)
theorem KX_next {x : List Int} {k : Nat} {r : Wi.Rd} : ∀ {i : Nat}, i < 11 → KX x k r (i + 1) = (KX x k r i).set (k + i) (Wi.nextV (nx r (kw.take i)) (kw.getD i 0)) ∧ nx r (kw.take (i + 1)) = Wi.next (nx r (kw.take i)) (kw.getD i 0)
  | 0, _ => ⟨rfl, rfl⟩
  | 1, _ => ⟨rfl, rfl⟩
  | 2, _ => ⟨rfl, rfl⟩
  | 3, _ => ⟨rfl, rfl⟩
  | 4, _ => ⟨rfl, rfl⟩
  | 5, _ => ⟨rfl, rfl⟩
  | 6, _ => ⟨rfl, rfl⟩
  | 7, _ => ⟨rfl, rfl⟩
  | 8, _ => ⟨rfl, rfl⟩
  | 9, _ => ⟨rfl, rfl⟩
  | 10, _ => ⟨rfl, rfl⟩
  | n + 11, h => by omega
theorem KX_all {x : List Int} {k : Nat} {r : Wi.Rd} : KX x k r 11 = setAll x k (flK (rdK r)) ∧ nx r (kw.take 11) = nxK r := ⟨rfl, rfl⟩
/-! Memory. -/
theorem made_rw {W : World} {T nb m : Nat} {z : Array Value} (hz : 0 < z.size) (h0 : ∀ u ∈ z, u = .int .i64 0) (hb : W.heap[nb]? = some (.cells (madeCells z m) T (0, 0))) : RW W T nb (List.replicate m 0) := by
  refine ⟨_, hb, by rw [size_madeCells, List.length_replicate], fun k x hk => ?_⟩
  rw [List.getElem?_replicate] at hk
  split at hk
  · rename_i hkm
    have hx : 0 = x := Option.some.inj hk
    subst hx
    have hlt := Nat.mod_lt k hz
    have e1 : (madeCells z m)[k]? = some (z[k % z.size]!) := by simp [madeCells, hkm]
    rw [e1]
    have e2 : z[k % z.size]! = z[k % z.size] := by simp [hlt]
    rw [e2, h0 _ (Array.getElem_mem hlt)]
  · cases hk
theorem set_self {cs : Array Value} {i : Nat} {u : Value} (h : cs[i]? = some u) : cs.setIfInBounds i u = cs := set_back h
theorem G2.below {W W' w0 : World} {g cb : Nat} (h : G2 W W' g cb) (hb : Below w0.heap.size w0 W) (hg : w0.heap.size ≤ g) (hc : w0.heap.size ≤ cb) : Below w0.heap.size w0 W' :=
  ⟨h.os.trans hb.os, h.tape.trans hb.tape, h.output.trans hb.output, Nat.le_trans hb.size h.size, fun k hk => (h.block k (Nat.lt_of_lt_of_le hk hb.size) (by omega) (by omega)).trans (hb.block k hk)⟩
theorem G2.typ {W W' : World} {rq g cb : Nat} {r : Wi.Rd} (h : G2 W W' g cb) (hd : DB W rq g r) {tc : Nat} {cc : Array Value} (hcb : W.heap[cb]? = some (.cells cc tc (0, 0))) {b t : Nat} {cs : Array Value} (hb : W.heap[b]? = some (.cells cs t (0, 0))) (h1 : t ≠ 103) (h2 : t ≠ 62) (h3 : t ≠ tc) : W'.heap[b]? = W.heap[b]? := by
  refine h.block b (blk_lt hb) (hd.ne hb h1 h2).1 (fun e => ?_)
  subst e
  have := hb.symm.trans hcb
  simp at this
  exact h3 this.2
/-- A row of the reader's own. -/
def RO (w0 W : World) (T : Nat) (B : Option Addr) (m : Nat) (vs : List Int) : Prop := (m = 0 ∧ B = none ∧ vs = []) ∨ (0 < m ∧ ∃ nb, w0.heap.size ≤ nb ∧ B = some ⟨nb, 0, none⟩ ∧ RW W T nb vs)
theorem RO.none (w0 W : World) (T : Nat) : RO w0 W T none 0 [] := .inl ⟨rfl, rfl, rfl⟩
theorem RO.move {w0 W W' : World} {T : Nat} {B : Option Addr} {m : Nat} {vs : List Int} (h : RO w0 W T B m vs) (hm : ∀ (b : Nat) (cs : Array Value), W.heap[b]? = some (.cells cs T (0, 0)) → W'.heap[b]? = W.heap[b]?) : RO w0 W' T B m vs := by
  rcases h with h | ⟨h1, nb, h2, h3, h4⟩
  · exact .inl h
  · obtain ⟨cs, h5, h6⟩ := id h4
    exact .inr ⟨h1, nb, h2, h3, h4.same (hm nb cs h5)⟩
theorem RO.at {w0 W : World} {T : Nat} {B : Option Addr} {m : Nat} {vs : List Int} (h : RO w0 W T B m vs) (hm : 0 < m) : ∃ nb, w0.heap.size ≤ nb ∧ B = some ⟨nb, 0, Option.none⟩ ∧ RW W T nb vs := by
  rcases h with ⟨h, _⟩ | ⟨_, h⟩
  · omega
  · exact h
/-- The memory while a config is read. -/
structure ST (w0 W : World) (cb rq g : Nat) (p f : Int) (B2 : Option Addr) (m2 : Nat) (x2 : List Int) (B3 : Option Addr) (m3 : Nat) (x3 : List Int) (B4 : Option Addr) (m4 : Nat) (x4 : List Int) (r : Wi.Rd) : Prop where
  db : DB W rq g r
  bk : W.heap[cb]? = some (.cells #[.int .i64 p, .int .i64 f, .slice B2 m2 m2, .slice B3 m3 m3, .slice B4 m4 m4] 26 (0, 0))
  bel : Below w0.heap.size w0 W
  hc : w0.heap.size ≤ cb
  hg : w0.heap.size ≤ g
  w : RO w0 W 46 B2 m2 x2
  k : RO w0 W 57 B3 m3 x3
  a : RO w0 W 3 B4 m4 x4
section
variable {w0 W W' : World} {cb rq g : Nat} {p f : Int} {B2 B3 B4 : Option Addr} {m2 m3 m4 : Nat} {x2 x3 x4 : List Int} {r r' : Wi.Rd}
theorem ST.far (h : ST w0 W cb rq g p f B2 m2 x2 B3 m3 x3 B4 m4 x4 r) (hb : Below W.heap.size W W') : ST w0 W' cb rq g p f B2 m2 x2 B3 m3 x3 B4 m4 x4 r :=
  ⟨h.db.far hb, blk_below h.bk hb, below_step h.bel hb, h.hc, h.hg, h.w.move (fun b cs hk => hb.block b (blk_lt hk)), h.k.move (fun b cs hk => hb.block b (blk_lt hk)), h.a.move (fun b cs hk => hb.block b (blk_lt hk))⟩
/-- The config's own block was written. -/
theorem ST.own (h : ST w0 W cb rq g p f B2 m2 x2 B3 m3 x3 B4 m4 x4 r) {p' f' : Int} (h2 : G2 W W' g cb) (hd : DB W' rq g r') (hb : W'.heap[cb]? = some (.cells #[.int .i64 p', .int .i64 f', .slice B2 m2 m2, .slice B3 m3 m3, .slice B4 m4 m4] 26 (0, 0))) : ST w0 W' cb rq g p' f' B2 m2 x2 B3 m3 x3 B4 m4 x4 r' :=
  ⟨hd, hb, h2.below h.bel h.hg h.hc, h.hc, h.hg, h.w.move (fun b cs hk => h2.typ h.db h.bk hk (by decide) (by decide) (by decide)), h.k.move (fun b cs hk => h2.typ h.db h.bk hk (by decide) (by decide) (by decide)), h.a.move (fun b cs hk => h2.typ h.db h.bk hk (by decide) (by decide) (by decide))⟩
theorem mv2 {g nb : Nat} {W1 : World} {u : Value} (hg : W.grownBy W1 (some g)) : G2 W (W1.setCell ⟨nb, 0, none⟩ u) g nb := (G2.of hg (.inl rfl)).trans (G2.of (grown_set W1 nb 0 u) (.inr (.inl rfl)))
theorem mvk {g nb k : Nat} {W1 : World} {u : Value} (hg : W.grownBy W1 (some g)) : G2 W (W1.setCell ⟨nb, k, none⟩ u) g nb := (G2.of hg (.inl rfl)).trans (G2.of (grown_set W1 nb k u) (.inr (.inl rfl)))
theorem decP (h : ST w0 W cb rq g p f B2 m2 x2 B3 m3 x3 B4 m4 x4 r) : Calls Tryd.prog 34 #[.int .i64 1, .pointer (some ⟨cb, 0, none⟩), .pointer (some ⟨rq, 0, none⟩)] W fun e W' => e = .returned (.tuple #[]) ∧ ST w0 W' cb rq g (Wi.nextV r 1) f B2 m2 x2 B3 m3 x3 B4 m4 x4 (Wi.next r 1) :=
  (dec1_any h.db 1 h.bk (by decide) (by decide) rfl ⟨p, rfl⟩).mono (fun e W' ⟨h1, W1, h2, h3, h4⟩ => by
    subst h4
    have hb1 := blk_grown h.bk h2 (fun e => (h.db.ne h.bk (by decide) (by decide)).1 (Option.some.inj e))
    exact ⟨h1, h.own (mvk h2) (h3.kept hb1 (by decide) (by decide) (by decide) (grown_set W1 cb 0 _)) (blk_put hb1 0 _ rfl)⟩)
theorem decF (h : ST w0 W cb rq g p f B2 m2 x2 B3 m3 x3 B4 m4 x4 r) : Calls Tryd.prog 34 #[.int .i64 1, .pointer (some ⟨cb, 1, none⟩), .pointer (some ⟨rq, 0, none⟩)] W fun e W' => e = .returned (.tuple #[]) ∧ ST w0 W' cb rq g p (Wi.nextV r 1) B2 m2 x2 B3 m3 x3 B4 m4 x4 (Wi.next r 1) :=
  (dec1_any h.db 1 h.bk (by decide) (by decide) rfl ⟨f, rfl⟩).mono (fun e W' ⟨h1, W1, h2, h3, h4⟩ => by
    subst h4
    have hb1 := blk_grown h.bk h2 (fun e => (h.db.ne h.bk (by decide) (by decide)).1 (Option.some.inj e))
    exact ⟨h1, h.own (mvk h2) (h3.kept hb1 (by decide) (by decide) (by decide) (grown_set W1 cb 1 _)) (blk_put hb1 1 _ rfl)⟩)
theorem cntW (h : ST w0 W cb rq g p f none 0 [] B3 m3 x3 B4 m4 x4 r) : Calls Tryd.prog 49 #[.func (.func 34) #[] #[.pointer (some ⟨rq, 0, none⟩)], .pointer (some ⟨cb, 2, none⟩)] W fun e W' => e = .returned (.tuple #[]) ∧ ∃ B, ST w0 W' cb rq g p f B (Wi.nextV r 1).toNat (soFar 3 flW [] (Wi.nextV r 1).toNat) B3 m3 x3 B4 m4 x4 (Wi.next r 1) :=
  (cntD46_any h.db h.bk (i := 2) rfl).mono (fun e W' ⟨h1, h2, h3, h4⟩ => by
    refine ⟨h1, ?_⟩
    have hk := h.k.move (W' := W') (fun b cs hk => h3.typ h.db h.bk hk (by decide) (by decide) (by decide))
    have ha := h.a.move (W' := W') (fun b cs hk => h3.typ h.db h.bk hk (by decide) (by decide) (by decide))
    rcases h4 with ⟨h4, h5⟩ | ⟨h4, nb, h5, h6, h7⟩
    · rw [h4]
      exact ⟨none, h2, h5, h3.below h.bel h.hg h.hc, h.hc, h.hg, .inl ⟨rfl, rfl, rfl⟩, hk, ha⟩
    · refine ⟨_, h2, h6, h3.below h.bel h.hg h.hc, h.hc, h.hg, .inr ⟨by omega, nb, Nat.le_trans h.bel.size h5, rfl, ?_⟩, hk, ha⟩
      have := made_rw (by decide) (fun u hu => by simpa [Value.cells] using hu) h7
      simpa [soFar] using this)
theorem cntK (h : ST w0 W cb rq g p f B2 m2 x2 none 0 [] B4 m4 x4 r) : Calls Tryd.prog 51 #[.func (.func 34) #[] #[.pointer (some ⟨rq, 0, none⟩)], .pointer (some ⟨cb, 3, none⟩)] W fun e W' => e = .returned (.tuple #[]) ∧ ∃ B, ST w0 W' cb rq g p f B2 m2 x2 B (Wi.nextV r 1).toNat (soFar 11 flK [] (Wi.nextV r 1).toNat) B4 m4 x4 (Wi.next r 1) :=
  (cntD57_any h.db h.bk (i := 3) rfl).mono (fun e W' ⟨h1, h2, h3, h4⟩ => by
    refine ⟨h1, ?_⟩
    have hk := h.w.move (W' := W') (fun b cs hk => h3.typ h.db h.bk hk (by decide) (by decide) (by decide))
    have ha := h.a.move (W' := W') (fun b cs hk => h3.typ h.db h.bk hk (by decide) (by decide) (by decide))
    rcases h4 with ⟨h4, h5⟩ | ⟨h4, nb, h5, h6, h7⟩
    · rw [h4]
      exact ⟨none, h2, h5, h3.below h.bel h.hg h.hc, h.hc, h.hg, hk, .inl ⟨rfl, rfl, rfl⟩, ha⟩
    · refine ⟨_, h2, h6, h3.below h.bel h.hg h.hc, h.hc, h.hg, hk, .inr ⟨by omega, nb, Nat.le_trans h.bel.size h5, rfl, ?_⟩, ha⟩
      have := made_rw (by decide) (fun u hu => by simpa [Value.cells] using hu) h7
      simpa [soFar] using this)
theorem cntA (h : ST w0 W cb rq g p f B2 m2 x2 B3 m3 x3 none 0 [] r) : Calls Tryd.prog 52 #[.func (.func 34) #[] #[.pointer (some ⟨rq, 0, none⟩)], .pointer (some ⟨cb, 4, none⟩)] W fun e W' => e = .returned (.tuple #[]) ∧ ∃ B, ST w0 W' cb rq g p f B2 m2 x2 B3 m3 x3 B (Wi.nextV r 1).toNat (soFar 1 flA [] (Wi.nextV r 1).toNat) (Wi.next r 1) :=
  (cntD3_any h.db h.bk (i := 4) rfl).mono (fun e W' ⟨h1, h2, h3, h4⟩ => by
    refine ⟨h1, ?_⟩
    have hk := h.w.move (W' := W') (fun b cs hk => h3.typ h.db h.bk hk (by decide) (by decide) (by decide))
    have ha := h.k.move (W' := W') (fun b cs hk => h3.typ h.db h.bk hk (by decide) (by decide) (by decide))
    rcases h4 with ⟨h4, h5⟩ | ⟨h4, nb, h5, h6, h7⟩
    · rw [h4]
      exact ⟨none, h2, h5, h3.below h.bel h.hg h.hc, h.hc, h.hg, hk, ha, .inl ⟨rfl, rfl, rfl⟩⟩
    · refine ⟨_, h2, h6, h3.below h.bel h.hg h.hc, h.hc, h.hg, hk, ha, .inr ⟨by omega, nb, Nat.le_trans h.bel.size h5, rfl, ?_⟩⟩
      have := made_rw (by decide) (fun u hu => by simpa [Value.cells] using hu) h7
      simpa [soFar] using this)
/-- One number of a row is read. -/
theorem decR_any {T nb k : Nat} {vs : List Int} (h : DB W rq g r) (n : Int) (hr : RW W T nb vs) (hk : k < vs.length) (h1 : T ≠ 103) (h2 : T ≠ 62) (h3 : T ≠ 5) {q : Addr} (hq : q = ⟨nb, k, none⟩) : Calls Tryd.prog 34 #[.int .i64 n, .pointer (some q), .pointer (some ⟨rq, 0, none⟩)] W fun e W' => e = .returned (.tuple #[]) ∧ DB W' rq g (Wi.next r n) ∧ RW W' T nb (vs.set k (Wi.nextV r n)) ∧ G2 W W' g nb := by
  subst hq
  obtain ⟨cs, hb, hc⟩ := hr.blk hk
  refine (dec1_any h n hb h1 h2 hc ⟨_, rfl⟩).mono (fun e W' ⟨e1, W1, hg, hd, e2⟩ => ?_)
  subst e2
  have hne := (h.ne hb h1 h2).1
  have hb1 := blk_grown hb hg (fun e => hne (Option.some.inj e))
  exact ⟨e1, hd.kept hb1 h1 h2 h3 (grown_set W1 nb k _), (hr.same (hg.block nb (blk_lt hb) (fun e => hne (Option.some.inj e)))).put _, mvk hg⟩
theorem decWn (h : ST w0 W cb rq g p f B2 m2 x2 B3 m3 x3 B4 m4 x4 r) (n : Int) (hm : 0 < m2) {nb k : Nat} (hB : B2 = some ⟨nb, 0, none⟩) (hk : k < x2.length) {q : Addr} (hq : q = ⟨nb, k, none⟩) : Calls Tryd.prog 34 #[.int .i64 n, .pointer (some q), .pointer (some ⟨rq, 0, none⟩)] W fun e W' => e = .returned (.tuple #[]) ∧ ST w0 W' cb rq g p f B2 m2 (x2.set k (Wi.nextV r n)) B3 m3 x3 B4 m4 x4 (Wi.next r n) := by
  obtain ⟨nb', hle, e1, hr⟩ := h.w.at hm
  have e2 := hB.symm.trans e1
  cases e2
  obtain ⟨cs, hb, _⟩ := id hr
  refine (decR_any h.db n hr hk (by decide) (by decide) (by decide) hq).mono (fun e W' ⟨e1, h2, h3, h4⟩ => ?_)
  exact ⟨e1, h2, (h4.typ h.db hb h.bk (by decide) (by decide) (by decide)).trans h.bk, h4.below h.bel h.hg hle, h.hc, h.hg, .inr ⟨hm, nb, hle, hB, h3⟩, h.k.move (fun b cs hk => h4.typ h.db hb hk (by decide) (by decide) (by decide)), h.a.move (fun b cs hk => h4.typ h.db hb hk (by decide) (by decide) (by decide))⟩
theorem decKn (h : ST w0 W cb rq g p f B2 m2 x2 B3 m3 x3 B4 m4 x4 r) (n : Int) (hm : 0 < m3) {nb k : Nat} (hB : B3 = some ⟨nb, 0, none⟩) (hk : k < x3.length) {q : Addr} (hq : q = ⟨nb, k, none⟩) : Calls Tryd.prog 34 #[.int .i64 n, .pointer (some q), .pointer (some ⟨rq, 0, none⟩)] W fun e W' => e = .returned (.tuple #[]) ∧ ST w0 W' cb rq g p f B2 m2 x2 B3 m3 (x3.set k (Wi.nextV r n)) B4 m4 x4 (Wi.next r n) ∧ ∀ (b : Nat) (cs : Array Value), W.heap[b]? = some (.cells cs 53 (0, 0)) → W'.heap[b]? = W.heap[b]? := by
  obtain ⟨nb', hle, e1, hr⟩ := h.k.at hm
  have e2 := hB.symm.trans e1
  cases e2
  obtain ⟨cs, hb, _⟩ := id hr
  refine (decR_any h.db n hr hk (by decide) (by decide) (by decide) hq).mono (fun e W' ⟨e1, h2, h3, h4⟩ => ?_)
  exact ⟨e1, ⟨h2, (h4.typ h.db hb h.bk (by decide) (by decide) (by decide)).trans h.bk, h4.below h.bel h.hg hle, h.hc, h.hg, h.w.move (fun b cs hk => h4.typ h.db hb hk (by decide) (by decide) (by decide)), .inr ⟨hm, nb, hle, hB, h3⟩, h.a.move (fun b cs hk => h4.typ h.db hb hk (by decide) (by decide) (by decide))⟩, fun b cs hk => h4.typ h.db hb hk (by decide) (by decide) (by decide)⟩
theorem decAn (h : ST w0 W cb rq g p f B2 m2 x2 B3 m3 x3 B4 m4 x4 r) (n : Int) (hm : 0 < m4) {nb k : Nat} (hB : B4 = some ⟨nb, 0, none⟩) (hk : k < x4.length) {q : Addr} (hq : q = ⟨nb, k, none⟩) : Calls Tryd.prog 34 #[.int .i64 n, .pointer (some q), .pointer (some ⟨rq, 0, none⟩)] W fun e W' => e = .returned (.tuple #[]) ∧ ST w0 W' cb rq g p f B2 m2 x2 B3 m3 x3 B4 m4 (x4.set k (Wi.nextV r n)) (Wi.next r n) := by
  obtain ⟨nb', hle, e1, hr⟩ := h.a.at hm
  have e2 := hB.symm.trans e1
  cases e2
  obtain ⟨cs, hb, _⟩ := id hr
  refine (decR_any h.db n hr hk (by decide) (by decide) (by decide) hq).mono (fun e W' ⟨e1, h2, h3, h4⟩ => ?_)
  exact ⟨e1, h2, (h4.typ h.db hb h.bk (by decide) (by decide) (by decide)).trans h.bk, h4.below h.bel h.hg hle, h.hc, h.hg, h.w.move (fun b cs hk => h4.typ h.db hb hk (by decide) (by decide) (by decide)), h.k.move (fun b cs hk => h4.typ h.db hb hk (by decide) (by decide) (by decide)), .inr ⟨hm, nb, hle, hB, h3⟩⟩
theorem decKi {k i : Nat} (h : ST w0 W cb rq g p f B2 m2 x2 B3 m3 (KX x3 k r i) B4 m4 x4 (nx r (kw.take i))) {n : Int} (hi : i < 11) (hn : n = kw.getD i 0) (hm : 0 < m3) {nb : Nat} (hB : B3 = some ⟨nb, 0, none⟩) (hk : k + 11 ≤ x3.length) {q : Addr} (hq : q = ⟨nb, k + i, none⟩) : Calls Tryd.prog 34 #[.int .i64 n, .pointer (some q), .pointer (some ⟨rq, 0, none⟩)] W fun e W' => e = .returned (.tuple #[]) ∧ ST w0 W' cb rq g p f B2 m2 x2 B3 m3 (KX x3 k r (i + 1)) B4 m4 x4 (nx r (kw.take (i + 1))) ∧ ∀ (b : Nat) (cs : Array Value), W.heap[b]? = some (.cells cs 53 (0, 0)) → W'.heap[b]? = W.heap[b]? := by
  subst hn
  rw [(KX_next (x := x3) (k := k) (r := r) hi).1, (KX_next (x := x3) (k := k) (r := r) hi).2]
  exact decKn h _ hm hB (by unfold KX; rw [setAll_len]; omega) hq
theorem ownW (h : ST w0 W cb rq g p f B2 m2 x2 B3 m3 x3 B4 m4 x4 r) (hm : 0 < m2) {nb k : Nat} (hB : B2 = some ⟨nb, 0, none⟩) (hk : x2[k]? = some 0) {q : Addr} (hq : q = ⟨nb, k, none⟩) : Calls Tryd.prog 50 #[.func (.func 34) #[] #[.pointer (some ⟨rq, 0, none⟩)], .pointer (some q)] W fun e W' => e = .returned (.tuple #[]) ∧ ST w0 W' cb rq g p f B2 m2 (x2.set k (ownR (Wi.nextV r 1))) B3 m3 x3 B4 m4 x4 (Wi.next r 1) := by
  subst hq
  obtain ⟨nb', hle, e1, hr⟩ := h.w.at hm
  have e2 := hB.symm.trans e1
  cases e2
  obtain ⟨cs, hb, hl, hcs⟩ := id hr
  refine (ownD_any h.db hb (hcs k 0 hk)).mono (fun e W' ⟨e1, h2, h4, h5⟩ => ?_)
  refine ⟨e1, h2, (h4.typ h.db hb h.bk (by decide) (by decide) (by decide)).trans h.bk, h4.below h.bel h.hg hle, h.hc, h.hg, .inr ⟨hm, nb, hle, hB, ?_⟩, h.k.move (fun b cs hk => h4.typ h.db hb hk (by decide) (by decide) (by decide)), h.a.move (fun b cs hk => h4.typ h.db hb hk (by decide) (by decide) (by decide))⟩
  have hp := hr.put (k := k) (ownR (Wi.nextV r 1))
  exact hp.same (h5.trans (blk_set hb k _).symm)
end
end Go.Proofs.YtdebbanloopcgaaDoor.Tb

/- Layer 5 (table): all, as Decode calls it. -/
set_option linter.unusedVariables false
set_option linter.unusedSimpArgs false
namespace Go.Proofs.YtdebbanloopcgaaDoor.Tb
open Go Go.RowKit Go.Proofs.YtdebbanloopcgaaDoorW.PrintWords Go.Proofs.YtdebbanloopcgaaDoorW.PrintLast Go.Proofs.YtdebbanloopcgaaDoorW.PrintMore Go.Proofs.YtdebbanloopcgaaDoor.Cz Go.Proofs.YtdebbanloopcgaaDoor.PTableWrites Go.Proofs.YtdebbanloopcgaaDoor.Cf
attribute [local go_sem] max2_int min2_int max_two min_two max_three min_three max_four min_four Tryd.underlying26 Tryd.underlying46 Tryd.underlying57
theorem add_at {ad : Addr} {nb : Nat} (h : ad = ⟨nb, 0, none⟩) (k : Nat) : ad.add k = ⟨nb, k, none⟩ := by
  subst h
  unfold Addr.add
  split
  · rename_i h; subst h; rfl
  · simp
theorem addf {ad : Addr} {nb : Nat} (h : ad = ⟨nb, 0, none⟩) (k i : Nat) : (⟨(ad.add k).block, (ad.add k).off + i, none⟩ : Addr) = ⟨nb, k + i, none⟩ := by rw [add_at h]
theorem rndW {r : Wi.Rd} {j m : Nat} (hj : j < m) : (((soFar 3 flW (liR nxW rdW r j) m).set (j * 3) (ownR (Wi.nextV (itR nxW r j) 1))).set (j * 3 + 1) (Wi.nextV (Wi.next (itR nxW r j) 1) 1)).set (j * 3 + 2) (Wi.nextV (Wi.next (Wi.next (itR nxW r j) 1) 1) 1) = soFar 3 flW (liR nxW rdW r (j + 1)) m := by
  have h := soFar_set (n := 3) (fl := flW) flW_len (l := liR nxW rdW r j) (m := m) (by rw [liR_len]; exact hj) (rdW (itR nxW r j)) rfl
  rw [liR_len] at h
  exact h
theorem rndK {r : Wi.Rd} {j m : Nat} (hj : j < m) : KX (soFar 11 flK (liR nxK rdK r j) m) (j * 11) (itR nxK r j) 11 = soFar 11 flK (liR nxK rdK r (j + 1)) m := by
  have h := soFar_set (n := 11) (fl := flK) flK_len (l := liR nxK rdK r j) (m := m) (by rw [liR_len]; exact hj) (rdK (itR nxK r j)) rfl
  rw [liR_len] at h
  exact h
theorem rndA {r : Wi.Rd} {j m : Nat} (hj : j < m) : (soFar 1 flA (liR nxA rdA r j) m).set j (Wi.nextV (itR nxA r j) 1) = soFar 1 flA (liR nxA rdA r (j + 1)) m := by
  have h := soFar_set (n := 1) (fl := flA) flA_len (l := liR nxA rdA r j) (m := m) (by rw [liR_len]; exact hj) (rdA (itR nxA r j)) rfl
  rw [liR_len, Nat.mul_one] at h
  exact h
theorem zeroW {r : Wi.Rd} {j m : Nat} (hj : j < m) : (soFar 3 flW (liR nxW rdW r j) m)[j * 3]? = some 0 := by
  have h := soFar_zero (n := 3) (fl := flW) (l := liR nxW rdW r j) flW_len (m := m) (by rw [liR_len]; exact hj) (i := 0) (by omega)
  rw [liR_len] at h
  exact h
theorem lenW {r : Wi.Rd} {j m : Nat} (hj : j ≤ m) : (soFar 3 flW (liR nxW rdW r j) m).length = m * 3 := soFar_len flW_len (by rw [liR_len]; exact hj)
theorem lenK {r : Wi.Rd} {j m : Nat} (hj : j ≤ m) : (soFar 11 flK (liR nxK rdK r j) m).length = m * 11 := soFar_len flK_len (by rw [liR_len]; exact hj)
theorem lenA {r : Wi.Rd} {j m : Nat} (hj : j ≤ m) : (soFar 1 flA (liR nxA rdA r j) m).length = m := by rw [soFar_len flA_len (by rw [liR_len]; exact hj), Nat.mul_one]
/-- A config that was read, in memory. -/
def DC (w0 W : World) (cb rq g : Nat) (r : Wi.Rd) (B2 B3 B4 : Option Addr) : Prop :=
  ST w0 W cb rq g (Wi.nextV r 1) (Wi.nextV (nx r [1]) 1) B2 (mW r) ((decC r).ws.flatMap flW) B3 (mK r) ((decC r).ks.flatMap flK) B4 (mA r) ((decC r).ac.flatMap flA) (eA r)
theorem dec_fin {w0 W : World} {cb rq g : Nat} {p f : Int} {B2 B3 B4 : Option Addr} {m2 m3 m4 : Nat} {x2 x3 : List Int} {r r2 r3 r4 r5 : Wi.Rd} (h : ST w0 W cb rq g p f B2 m2 x2 B3 m3 x3 B4 m4 (soFar 1 flA (liR nxA rdA r5 m4) m4) (itR nxA r5 m4)) (e1 : Wi.nextV r 1 = p) (e2 : Wi.nextV (Wi.next r 1) 1 = f) (e3 : mW r = m2) (e4 : soFar 3 flW (liR nxW rdW (dW r) m2) m2 = x2) (e5 : itR nxW (dW r) m2 = r2) (e6 : (Wi.nextV r2 1).toNat = m3) (e7 : Wi.next r2 1 = r3) (e8 : soFar 11 flK (liR nxK rdK r3 m3) m3 = x3) (e9 : itR nxK r3 m3 = r4) (e10 : (Wi.nextV r4 1).toNat = m4) (e11 : Wi.next r4 1 = r5) : DC w0 W cb rq g r B2 B3 B4 := by
  subst e1 e2 e3 e4 e5 e6 e7 e8 e9 e10 e11
  rw [soFar_all (liR_len _), soFar_all (liR_len _), soFar_all (liR_len _)] at h
  exact h
set_option maxHeartbeats 16000000 in
set_option maxRecDepth 100000 in
theorem all_dec {w0 W : World} {cb rq g : Nat} {r : Wi.Rd} (h : ST w0 W cb rq g 0 0 none 0 [] none 0 [] none 0 [] r) :
    Calls Tryd.prog 22 #[.pointer (some ⟨cb, 0, none⟩), .func (.func 34) #[] #[.pointer (some ⟨rq, 0, none⟩)]] W fun e W' => e = .returned (.tuple #[]) ∧ ∃ B2 B3 B4, DC w0 W' cb rq g r B2 B3 B4 := by
  have H := Aside0.mk h
  clear h
  have c0 := (blk_cell H.out.bk 0).trans (show _ = some (.int .i64 0) from rfl)
  have c1 := (blk_cell H.out.bk 1).trans (show _ = some (.int .i64 0) from rfl)
  have c2 := (blk_cell H.out.bk 2).trans (show _ = some (.slice none 0 0) from rfl)
  have c3 := (blk_cell H.out.bk 3).trans (show _ = some (.slice none 0 0) from rfl)
  have c4 := (blk_cell H.out.bk 4).trans (show _ = some (.slice none 0 0) from rfl)
  go_enter Tryd.func22, Tryd.ntmps22
  go_upto_region 1 with (first | (go_at_call 34; (with_reducible refine (decP H.out).mono ?_); rintro e w1 ⟨rfl, hE⟩; have H1 : Aside0 (ST w0 w1 cb rq g (Wi.nextV r 1) 0 none 0 [] none 0 [] none 0 [] (Wi.next r 1)) := ⟨hE⟩; clear hE; clear c0 c1 c2 c3 c4))
  obtain ⟨p, hp⟩ : ∃ p, Wi.nextV r 1 = p := ⟨_, rfl⟩
  rw [hp] at H1
  have E1 := Aside0.mk hp
  clear hp
  have c0 := (blk_cell H1.out.bk 0).trans (show _ = some (.int .i64 p) from rfl)
  have c1 := (blk_cell H1.out.bk 1).trans (show _ = some (.int .i64 0) from rfl)
  have c2 := (blk_cell H1.out.bk 2).trans (show _ = some (.slice none 0 0) from rfl)
  have c3 := (blk_cell H1.out.bk 3).trans (show _ = some (.slice none 0 0) from rfl)
  have c4 := (blk_cell H1.out.bk 4).trans (show _ = some (.slice none 0 0) from rfl)
  go_upto_region 2 with (first | (go_at_call 34; (with_reducible refine (decF H1.out).mono ?_); rintro e w2 ⟨rfl, hE⟩; have H2 : Aside0 (ST w0 w2 cb rq g p (Wi.nextV (Wi.next r 1) 1) none 0 [] none 0 [] none 0 [] (Wi.next (Wi.next r 1) 1)) := ⟨hE⟩; clear hE; clear c0 c1 c2 c3 c4))
  obtain ⟨f, hf⟩ : ∃ f, Wi.nextV (Wi.next r 1) 1 = f := ⟨_, rfl⟩
  rw [hf] at H2
  have E2 := Aside0.mk hf
  clear hf
  have c0 := (blk_cell H2.out.bk 0).trans (show _ = some (.int .i64 p) from rfl)
  have c1 := (blk_cell H2.out.bk 1).trans (show _ = some (.int .i64 f) from rfl)
  have c2 := (blk_cell H2.out.bk 2).trans (show _ = some (.slice none 0 0) from rfl)
  have c3 := (blk_cell H2.out.bk 3).trans (show _ = some (.slice none 0 0) from rfl)
  have c4 := (blk_cell H2.out.bk 4).trans (show _ = some (.slice none 0 0) from rfl)
  have hm2 : mW r ≤ 255 := by have := nextV1_bd H2.out.db.rd.wf; have e : mW r = (Wi.nextV (Wi.next (Wi.next r 1) 1) 1).toNat := rfl; omega
  go_upto_region 3 with (first | (go_at_call 49; (with_reducible refine (cntW H2.out).mono ?_); rintro e w3 ⟨rfl, B2, hE⟩; have H3 : Aside0 (ST w0 w3 cb rq g p f B2 (mW r) (soFar 3 flW (liR nxW rdW (dW r) 0) (mW r)) none 0 [] none 0 [] (itR nxW (dW r) 0)) := ⟨hE⟩; clear hE; clear c0 c1 c2 c3 c4))
  obtain ⟨m2, hm⟩ : ∃ m, mW r = m := ⟨_, rfl⟩
  obtain ⟨rd, hrd⟩ : ∃ x, dW r = x := ⟨_, rfl⟩
  rw [hm, hrd] at H3
  rw [hm] at hm2
  have E3 := Aside0.mk hm
  have ED := Aside0.mk hrd
  clear hm hrd
  have c0 := (blk_cell H3.out.bk 0).trans (show _ = some (.int .i64 p) from rfl)
  have c1 := (blk_cell H3.out.bk 1).trans (show _ = some (.int .i64 f) from rfl)
  have c2 := (blk_cell H3.out.bk 2).trans (show _ = some (.slice B2 m2 m2) from rfl)
  have c3 := (blk_cell H3.out.bk 3).trans (show _ = some (.slice none 0 0) from rfl)
  have c4 := (blk_cell H3.out.bk 4).trans (show _ = some (.slice none 0 0) from rfl)
  clear H H1 H2
  go_wp2
  go_loopw [33] (fun v46 wr => ∃ j : Nat, v46 = .int .i64 j ∧ j ≤ m2 ∧ Aside0 (ST w0 wr cb rq g p f B2 m2 (soFar 3 flW (liR nxW rdW rd j) m2) none 0 [] none 0 [] (itR nxW rd j))) (fun v46 _ => m2 - (intOf v46).toNat)
  case atStart => exact ⟨0, rfl, by omega, H3⟩
  case round =>
    clear H3 c0 c1 c2 c3 c4
    rename_i gv46
    obtain ⟨j, rfl, hj, H5⟩ := hrel
    have c0 := (blk_cell H5.out.bk 0).trans (show _ = some (.int .i64 p) from rfl)
    have c1 := (blk_cell H5.out.bk 1).trans (show _ = some (.int .i64 f) from rfl)
    have c2 := (blk_cell H5.out.bk 2).trans (show _ = some (.slice B2 m2 m2) from rfl)
    have c3 := (blk_cell H5.out.bk 3).trans (show _ = some (.slice none 0 0) from rfl)
    have c4 := (blk_cell H5.out.bk 4).trans (show _ = some (.slice none 0 0) from rfl)
    by_cases hlt : j < m2
    · have d1 : decide ((j : Int) < (m2 : Int)) = true := decide_eq_true (by omega)
      have d1n : decide (j < m2) = true := decide_eq_true hlt
      have hj0 : 0 ≤ (j : Int) := by omega
      have hj1 : (j : Int) < m2 := by omega
      obtain ⟨nb, hn1, hB, hn2⟩ := H5.out.w.at (by omega)
      obtain ⟨ad, HAD, hB2⟩ : ∃ ad, Aside0 (ad = (⟨nb, 0, none⟩ : Addr)) ∧ B2 = some ad := ⟨_, ⟨rfl⟩, hB⟩
      clear hB hn1 hn2
      subst hB2
      have HAB : Aside0 (some ad = some (⟨nb, 0, none⟩ : Addr)) := ⟨congrArg some HAD.out⟩
      have HLN : Aside0 ((soFar 3 flW (liR nxW rdW rd j) m2).length = m2 * 3) := ⟨lenW hj⟩
      have HZR : Aside0 ((soFar 3 flW (liR nxW rdW rd j) m2)[j * 3]? = some 0) := ⟨zeroW hlt⟩
      have HM0 : Aside0 (0 < m2) := ⟨by omega⟩
      have HQ0 : Aside0 (ad.add (j * 3) = ⟨nb, j * 3, none⟩) := ⟨add_at HAD.out _⟩
      have HQ1 : Aside0 ((⟨(ad.add (j * 3)).block, (ad.add (j * 3)).off + 1, none⟩ : Addr) = ⟨nb, j * 3 + 1, none⟩) := ⟨addf HAD.out _ _⟩
      have HQ2 : Aside0 ((⟨(ad.add (j * 3)).block, (ad.add (j * 3)).off + 2, none⟩ : Addr) = ⟨nb, j * 3 + 2, none⟩) := ⟨addf HAD.out _ _⟩
      have HL1 : Aside0 (j * 3 + 1 < ((soFar 3 flW (liR nxW rdW rd j) m2).set (j * 3) (ownR (Wi.nextV (itR nxW rd j) 1))).length) := ⟨by rw [List.length_set, HLN.out]; omega⟩
      have HL2 : Aside0 (j * 3 + 2 < (((soFar 3 flW (liR nxW rdW rd j) m2).set (j * 3) (ownR (Wi.nextV (itR nxW rd j) 1))).set (j * 3 + 1) (Wi.nextV (Wi.next (itR nxW rd j) 1) 1)).length) := ⟨by rw [List.length_set, List.length_set, HLN.out]; omega⟩
      have HRN : Aside0 (((((soFar 3 flW (liR nxW rdW rd j) m2).set (j * 3) (ownR (Wi.nextV (itR nxW rd j) 1))).set (j * 3 + 1) (Wi.nextV (Wi.next (itR nxW rd j) 1) 1)).set (j * 3 + 2) (Wi.nextV (Wi.next (Wi.next (itR nxW rd j) 1) 1) 1)) = soFar 3 flW (liR nxW rdW rd (j + 1)) m2) := ⟨rndW hlt⟩
      obtain ⟨y0, hy0⟩ : ∃ y, (soFar 3 flW (liR nxW rdW rd j) m2) = y := ⟨_, rfl⟩
      obtain ⟨s0, hs0⟩ : ∃ y, (itR nxW rd j) = y := ⟨_, rfl⟩
      rw [hy0] at H5 HLN HZR HL1 HL2 HRN
      rw [hs0] at H5 HL1 HL2 HRN
      have EY := Aside0.mk hy0
      have ES := Aside0.mk hs0
      clear hy0 hs0
      go_upto_region 8 with (first | (go_at_call 50; (with_reducible refine (ownW H5.out HM0.out HAB.out HZR.out HQ0.out).mono ?_); rintro e w6 ⟨rfl, hE⟩; have H6 : Aside0 (ST w0 w6 cb rq g p f (some ad) m2 (y0.set (j * 3) (ownR (Wi.nextV s0 1))) none 0 [] none 0 [] (Wi.next s0 1)) := ⟨hE⟩; clear hE; clear c0 c1 c2 c3 c4))
      go_upto_region 9 with (first | (go_at_call 34; (with_reducible refine (decWn H6.out 1 HM0.out HAB.out HL1.out HQ1.out).mono ?_); rintro e w7 ⟨rfl, hE⟩; have H7 : Aside0 (ST w0 w7 cb rq g p f (some ad) m2 ((y0.set (j * 3) (ownR (Wi.nextV s0 1))).set (j * 3 + 1) (Wi.nextV (Wi.next s0 1) 1)) none 0 [] none 0 [] (Wi.next (Wi.next s0 1) 1)) := ⟨hE⟩; clear hE))
      go_wp2_with (first | (go_at_call 34; (with_reducible refine (decWn H7.out 1 HM0.out HAB.out HL2.out HQ2.out).mono ?_); rintro e w8 ⟨rfl, hE⟩; have H8 : Aside0 (ST w0 w8 cb rq g p f (some ad) m2 (((y0.set (j * 3) (ownR (Wi.nextV s0 1))).set (j * 3 + 1) (Wi.nextV (Wi.next s0 1) 1)).set (j * 3 + 2) (Wi.nextV (Wi.next (Wi.next s0 1) 1) 1)) none 0 [] none 0 [] (Wi.next (Wi.next (Wi.next s0 1) 1) 1)) := ⟨hE⟩; clear hE))
      rw [HRN.out] at H8
      have HEQ : Aside0 (ST w0 w8 cb rq g p f (some ad) m2 (soFar 3 flW (liR nxW rdW rd (j + 1)) m2) none 0 [] none 0 [] (itR nxW rd (j + 1))) := ⟨by have h := H8.out; rw [← ES.out] at h; exact h⟩
      go_roundw
      case rel => exact ⟨j + 1, by go_num, by omega, HEQ⟩
      case measure => simp [intOf]; omega
    · have d1 : decide ((j : Int) < (m2 : Int)) = false := decide_eq_false (by omega)
      have d1n : decide (j < m2) = false := decide_eq_false hlt
      obtain rfl : m2 = j := by omega
      obtain ⟨x2, hx⟩ : ∃ x, soFar 3 flW (liR nxW rdW rd m2) m2 = x := ⟨_, rfl⟩
      obtain ⟨r2, hr2⟩ : ∃ x, itR nxW rd m2 = x := ⟨_, rfl⟩
      rw [hx, hr2] at H5
      have E4 := Aside0.mk hx
      have E5 := Aside0.mk hr2
      clear hx hr2
      have hm3 : (Wi.nextV r2 1).toNat ≤ 255 := by have := nextV1_bd H5.out.db.rd.wf; omega
      go_upto_region 12 with (first | (go_at_call 51; (with_reducible refine (cntK H5.out).mono ?_); rintro e w10 ⟨rfl, B3, hE⟩; have H10 : Aside0 (ST w0 w10 cb rq g p f B2 m2 x2 B3 (Wi.nextV r2 1).toNat (soFar 11 flK (liR nxK rdK (Wi.next r2 1) 0) (Wi.nextV r2 1).toNat) none 0 [] (itR nxK (Wi.next r2 1) 0)) := ⟨hE⟩; clear hE; clear c0 c1 c2 c3 c4))
      obtain ⟨m3, hm⟩ : ∃ m, (Wi.nextV r2 1).toNat = m := ⟨_, rfl⟩
      obtain ⟨r3, hr3⟩ : ∃ x, Wi.next r2 1 = x := ⟨_, rfl⟩
      rw [hm, hr3] at H10
      rw [hm] at hm3
      have E6 := Aside0.mk hm
      have E7 := Aside0.mk hr3
      clear hm hr3
      have c0 := (blk_cell H10.out.bk 0).trans (show _ = some (.int .i64 p) from rfl)
      have c1 := (blk_cell H10.out.bk 1).trans (show _ = some (.int .i64 f) from rfl)
      have c2 := (blk_cell H10.out.bk 2).trans (show _ = some (.slice B2 m2 m2) from rfl)
      have c3 := (blk_cell H10.out.bk 3).trans (show _ = some (.slice B3 m3 m3) from rfl)
      have c4 := (blk_cell H10.out.bk 4).trans (show _ = some (.slice none 0 0) from rfl)
      clear H5
      go_wp2
      go_loopw [66] (fun v66 wr => ∃ j : Nat, v66 = .int .i64 j ∧ j ≤ m3 ∧ Aside0 (ST w0 wr cb rq g p f B2 m2 x2 B3 m3 (soFar 11 flK (liR nxK rdK r3 j) m3) none 0 [] (itR nxK r3 j))) (fun v66 _ => m3 - (intOf v66).toNat)
      case atStart => exact ⟨0, rfl, by omega, H10⟩
      case round =>
        clear H10 c0 c1 c2 c3 c4 d1 d1n hlt hj
        rename_i wr2 gv66
        obtain ⟨j, rfl, hj, H12⟩ := hrel
        have c0 := (blk_cell H12.out.bk 0).trans (show _ = some (.int .i64 p) from rfl)
        have c1 := (blk_cell H12.out.bk 1).trans (show _ = some (.int .i64 f) from rfl)
        have c2 := (blk_cell H12.out.bk 2).trans (show _ = some (.slice B2 m2 m2) from rfl)
        have c3 := (blk_cell H12.out.bk 3).trans (show _ = some (.slice B3 m3 m3) from rfl)
        have c4 := (blk_cell H12.out.bk 4).trans (show _ = some (.slice none 0 0) from rfl)
        by_cases hlt : j < m3
        · have d1 : decide ((j : Int) < (m3 : Int)) = true := decide_eq_true (by omega)
          have d1n : decide (j < m3) = true := decide_eq_true hlt
          have hj0 : 0 ≤ (j : Int) := by omega
          have hj1 : (j : Int) < m3 := by omega
          obtain ⟨nb, hn1, hB, hn2⟩ := H12.out.k.at (by omega)
          obtain ⟨ad, HAD, hB2⟩ : ∃ ad, Aside0 (ad = (⟨nb, 0, none⟩ : Addr)) ∧ B3 = some ad := ⟨_, ⟨rfl⟩, hB⟩
          clear hB hn1 hn2
          subst hB2
          have HAB : Aside0 (some ad = some (⟨nb, 0, none⟩ : Addr)) := ⟨congrArg some HAD.out⟩
          have HM0 : Aside0 (0 < m3) := ⟨by omega⟩
          have HXL : Aside0 (j * 11 + 11 ≤ (soFar 11 flK (liR nxK rdK r3 j) m3).length) := ⟨by rw [lenK hj]; omega⟩
          have HRN : Aside0 (KX (soFar 11 flK (liR nxK rdK r3 j) m3) (j * 11) (itR nxK r3 j) 11 = soFar 11 flK (liR nxK rdK r3 (j + 1)) m3) := ⟨rndK hlt⟩
          obtain ⟨xk, hxk⟩ : ∃ y, soFar 11 flK (liR nxK rdK r3 j) m3 = y := ⟨_, rfl⟩
          obtain ⟨rj, hrj⟩ : ∃ y, itR nxK r3 j = y := ⟨_, rfl⟩
          rw [hxk] at H12 HXL HRN
          rw [hrj] at H12 HRN
          have ES := Aside0.mk hrj
          clear hxk hrj
          have HQ0 : Aside0 (ad.add (j * 11) = ⟨nb, j * 11 + 0, none⟩) := ⟨add_at HAD.out _⟩
          have HQ1 : Aside0 ((⟨(ad.add (j * 11)).block, (ad.add (j * 11)).off + 1, none⟩ : Addr) = ⟨nb, j * 11 + 1, none⟩) := ⟨addf HAD.out _ _⟩
          have HQ2 : Aside0 ((⟨(ad.add (j * 11)).block, (ad.add (j * 11)).off + 2, none⟩ : Addr) = ⟨nb, j * 11 + 2, none⟩) := ⟨addf HAD.out _ _⟩
          have HQ3 : Aside0 ((⟨(ad.add (j * 11)).block, (ad.add (j * 11)).off + 3, none⟩ : Addr) = ⟨nb, j * 11 + 3, none⟩) := ⟨addf HAD.out _ _⟩
          have HQ4 : Aside0 ((⟨(ad.add (j * 11)).block, (ad.add (j * 11)).off + 4, none⟩ : Addr) = ⟨nb, j * 11 + 4, none⟩) := ⟨addf HAD.out _ _⟩
          have HQ5 : Aside0 ((⟨(ad.add (j * 11)).block, (ad.add (j * 11)).off + 5, none⟩ : Addr) = ⟨nb, j * 11 + 5, none⟩) := ⟨addf HAD.out _ _⟩
          have HQ6 : Aside0 ((⟨(ad.add (j * 11)).block, (ad.add (j * 11)).off + 6, none⟩ : Addr) = ⟨nb, j * 11 + 6, none⟩) := ⟨addf HAD.out _ _⟩
          have HQ7 : Aside0 ((⟨(ad.add (j * 11)).block, (ad.add (j * 11)).off + 7, none⟩ : Addr) = ⟨nb, j * 11 + 7, none⟩) := ⟨addf HAD.out _ _⟩
          have HQ8 : Aside0 ((⟨(ad.add (j * 11)).block, (ad.add (j * 11)).off + 8, none⟩ : Addr) = ⟨nb, j * 11 + 8, none⟩) := ⟨addf HAD.out _ _⟩
          have HQ9 : Aside0 ((⟨(ad.add (j * 11)).block, (ad.add (j * 11)).off + 9, none⟩ : Addr) = ⟨nb, j * 11 + 9, none⟩) := ⟨addf HAD.out _ _⟩
          have HQ10 : Aside0 ((⟨(ad.add (j * 11)).block, (ad.add (j * 11)).off + 10, none⟩ : Addr) = ⟨nb, j * 11 + 10, none⟩) := ⟨addf HAD.out _ _⟩
          go_upto_region 16 with (first | fail)
          go_region_held3 (fun _ => True) (first | trivial | go_keep) (first | fail)
          all_goals
            have HN := And.intro (H12.out.far (below_drew (below_alloc (Below.refl wr.heap.size wr) (.cells #[.pointer (some (ad.add (j * 11))), .pointer (some ⟨(ad.add (j * 11)).block, (ad.add (j * 11)).off + 1, none⟩), .pointer (some ⟨(ad.add (j * 11)).block, (ad.add (j * 11)).off + 2, none⟩), .pointer (some ⟨(ad.add (j * 11)).block, (ad.add (j * 11)).off + 3, none⟩)] 53)))) (blk_drew (blk_new wr (.cells #[.pointer (some (ad.add (j * 11))), .pointer (some ⟨(ad.add (j * 11)).block, (ad.add (j * 11)).off + 1, none⟩), .pointer (some ⟨(ad.add (j * 11)).block, (ad.add (j * 11)).off + 2, none⟩), .pointer (some ⟨(ad.add (j * 11)).block, (ad.add (j * 11)).off + 3, none⟩)] 53)))
            go_wp2
            revert HN
            generalize (wr.alloc (.cells #[.pointer (some (ad.add (j * 11))), .pointer (some ⟨(ad.add (j * 11)).block, (ad.add (j * 11)).off + 1, none⟩), .pointer (some ⟨(ad.add (j * 11)).block, (ad.add (j * 11)).off + 2, none⟩), .pointer (some ⟨(ad.add (j * 11)).block, (ad.add (j * 11)).off + 3, none⟩)] 53)).drew = wN
            generalize wr.heap.size = pb
            intro HN
            have HP0 : Aside0 (ST w0 wN cb rq g p f B2 m2 x2 (some ad) m3 (KX xk (j * 11) rj (0 + 0)) none 0 [] (nx rj (kw.take (0 + 0))) ∧ wN.heap[pb]? = some (.cells #[.pointer (some (ad.add (j * 11))), .pointer (some ⟨(ad.add (j * 11)).block, (ad.add (j * 11)).off + 1, none⟩), .pointer (some ⟨(ad.add (j * 11)).block, (ad.add (j * 11)).off + 2, none⟩), .pointer (some ⟨(ad.add (j * 11)).block, (ad.add (j * 11)).off + 3, none⟩)] 53 (0, 0))) := ⟨HN⟩
            clear HN
            go_loopw [89] (fun vS wr => ∃ i : Nat, vS = .int .i64 i ∧ i ≤ 4 ∧ Aside0 (ST w0 wr cb rq g p f B2 m2 x2 (some ad) m3 (KX xk (j * 11) rj (0 + i)) none 0 [] (nx rj (kw.take (0 + i))) ∧ wr.heap[pb]? = some (.cells #[.pointer (some (ad.add (j * 11))), .pointer (some ⟨(ad.add (j * 11)).block, (ad.add (j * 11)).off + 1, none⟩), .pointer (some ⟨(ad.add (j * 11)).block, (ad.add (j * 11)).off + 2, none⟩), .pointer (some ⟨(ad.add (j * 11)).block, (ad.add (j * 11)).off + 3, none⟩)] 53 (0, 0)))) (fun vS _ => 4 - (intOf vS).toNat)
            case atStart => exact ⟨0, rfl, by omega, HP0⟩
            case round =>
              clear HP0
              obtain ⟨i, rfl, hi, HQ⟩ := hrel
              obtain ⟨hA, hPB⟩ := HQ.out
              have H13 := Aside0.mk hA
              clear hA HQ
              by_cases hiL : i < 4
              · rcases i with _ | _ | _ | _ | i
                ·
                  have H13 : Aside0 (ST w0 wr cb rq g p f B2 m2 x2 (some ad) m3 (KX xk (j * 11) rj 0) none 0 [] (nx rj (kw.take 0))) := ⟨H13.out⟩
                  have p0 := (blk_cell hPB 0).trans (show _ = some (.pointer (some (ad.add (j * 11)))) from rfl)
                  go_wp2_with (first | (go_at_call 34; (with_reducible refine (decKi (x3 := xk) (k := j * 11) (r := rj) (i := 0) (n := 1) H13.out (by omega) rfl HM0.out HAB.out HXL.out HQ0.out).mono ?_); rintro e w14 ⟨rfl, hE, h3⟩; have H14 : Aside0 (ST w0 w14 cb rq g p f B2 m2 x2 (some ad) m3 (KX xk (j * 11) rj 1) none 0 [] (nx rj (kw.take 1))) := ⟨hE⟩; have HPB := Aside0.mk ((h3 pb _ hPB).trans hPB); clear hE h3 p0))
                  go_roundw
                  case rel => exact ⟨1, by first | rfl | go_num, by omega, ⟨⟨H14.out, HPB.out⟩⟩⟩
                  case measure => simp [intOf]
                ·
                  have H13 : Aside0 (ST w0 wr cb rq g p f B2 m2 x2 (some ad) m3 (KX xk (j * 11) rj 1) none 0 [] (nx rj (kw.take 1))) := ⟨H13.out⟩
                  have p0 := (blk_cell hPB 1).trans (show _ = some (.pointer (some ⟨(ad.add (j * 11)).block, (ad.add (j * 11)).off + 1, none⟩)) from rfl)
                  go_wp2_with (first | (go_at_call 34; (with_reducible refine (decKi (x3 := xk) (k := j * 11) (r := rj) (i := 1) (n := 1) H13.out (by omega) rfl HM0.out HAB.out HXL.out HQ1.out).mono ?_); rintro e w14 ⟨rfl, hE, h3⟩; have H14 : Aside0 (ST w0 w14 cb rq g p f B2 m2 x2 (some ad) m3 (KX xk (j * 11) rj 2) none 0 [] (nx rj (kw.take 2))) := ⟨hE⟩; have HPB := Aside0.mk ((h3 pb _ hPB).trans hPB); clear hE h3 p0))
                  go_roundw
                  case rel => exact ⟨2, by first | rfl | go_num, by omega, ⟨⟨H14.out, HPB.out⟩⟩⟩
                  case measure => simp [intOf]
                ·
                  have H13 : Aside0 (ST w0 wr cb rq g p f B2 m2 x2 (some ad) m3 (KX xk (j * 11) rj 2) none 0 [] (nx rj (kw.take 2))) := ⟨H13.out⟩
                  have p0 := (blk_cell hPB 2).trans (show _ = some (.pointer (some ⟨(ad.add (j * 11)).block, (ad.add (j * 11)).off + 2, none⟩)) from rfl)
                  go_wp2_with (first | (go_at_call 34; (with_reducible refine (decKi (x3 := xk) (k := j * 11) (r := rj) (i := 2) (n := 1) H13.out (by omega) rfl HM0.out HAB.out HXL.out HQ2.out).mono ?_); rintro e w14 ⟨rfl, hE, h3⟩; have H14 : Aside0 (ST w0 w14 cb rq g p f B2 m2 x2 (some ad) m3 (KX xk (j * 11) rj 3) none 0 [] (nx rj (kw.take 3))) := ⟨hE⟩; have HPB := Aside0.mk ((h3 pb _ hPB).trans hPB); clear hE h3 p0))
                  go_roundw
                  case rel => exact ⟨3, by first | rfl | go_num, by omega, ⟨⟨H14.out, HPB.out⟩⟩⟩
                  case measure => simp [intOf]
                ·
                  have H13 : Aside0 (ST w0 wr cb rq g p f B2 m2 x2 (some ad) m3 (KX xk (j * 11) rj 3) none 0 [] (nx rj (kw.take 3))) := ⟨H13.out⟩
                  have p0 := (blk_cell hPB 3).trans (show _ = some (.pointer (some ⟨(ad.add (j * 11)).block, (ad.add (j * 11)).off + 3, none⟩)) from rfl)
                  go_wp2_with (first | (go_at_call 34; (with_reducible refine (decKi (x3 := xk) (k := j * 11) (r := rj) (i := 3) (n := 1) H13.out (by omega) rfl HM0.out HAB.out HXL.out HQ3.out).mono ?_); rintro e w14 ⟨rfl, hE, h3⟩; have H14 : Aside0 (ST w0 w14 cb rq g p f B2 m2 x2 (some ad) m3 (KX xk (j * 11) rj 4) none 0 [] (nx rj (kw.take 4))) := ⟨hE⟩; have HPB := Aside0.mk ((h3 pb _ hPB).trans hPB); clear hE h3 p0))
                  go_roundw
                  case rel => exact ⟨4, by first | rfl | go_num, by omega, ⟨⟨H14.out, HPB.out⟩⟩⟩
                  case measure => simp [intOf]
                · omega
              · obtain rfl : i = 4 := by omega
                have H13 : Aside0 (ST w0 wr cb rq g p f B2 m2 x2 (some ad) m3 (KX xk (j * 11) rj 4) none 0 [] (nx rj (kw.take 4))) := ⟨H13.out⟩
                clear hPB hiL hi
                go_upto_region 22 with (first | (go_at_call 34; (with_reducible refine (decKi (x3 := xk) (k := j * 11) (r := rj) (i := 4) (n := 4) H13.out (by omega) rfl HM0.out HAB.out HXL.out HQ4.out).mono ?_); rintro e w15 ⟨rfl, hE, h3⟩; have H15 : Aside0 (ST w0 w15 cb rq g p f B2 m2 x2 (some ad) m3 (KX xk (j * 11) rj 5) none 0 [] (nx rj (kw.take 5))) := ⟨hE⟩; clear hE h3))
                go_region_held3 (fun _ => True) (first | trivial | go_keep) (first | fail)
                all_goals
                  have HN := And.intro (H15.out.far (below_drew (below_alloc (Below.refl w15.heap.size w15) (.cells #[.pointer (some ⟨(ad.add (j * 11)).block, (ad.add (j * 11)).off + 5, none⟩), .pointer (some ⟨(ad.add (j * 11)).block, (ad.add (j * 11)).off + 6, none⟩), .pointer (some ⟨(ad.add (j * 11)).block, (ad.add (j * 11)).off + 7, none⟩)] 53)))) (blk_drew (blk_new w15 (.cells #[.pointer (some ⟨(ad.add (j * 11)).block, (ad.add (j * 11)).off + 5, none⟩), .pointer (some ⟨(ad.add (j * 11)).block, (ad.add (j * 11)).off + 6, none⟩), .pointer (some ⟨(ad.add (j * 11)).block, (ad.add (j * 11)).off + 7, none⟩)] 53)))
                  go_wp2
                  revert HN
                  generalize (w15.alloc (.cells #[.pointer (some ⟨(ad.add (j * 11)).block, (ad.add (j * 11)).off + 5, none⟩), .pointer (some ⟨(ad.add (j * 11)).block, (ad.add (j * 11)).off + 6, none⟩), .pointer (some ⟨(ad.add (j * 11)).block, (ad.add (j * 11)).off + 7, none⟩)] 53)).drew = wN
                  generalize w15.heap.size = pb
                  intro HN
                  have HP0 : Aside0 (ST w0 wN cb rq g p f B2 m2 x2 (some ad) m3 (KX xk (j * 11) rj (5 + 0)) none 0 [] (nx rj (kw.take (5 + 0))) ∧ wN.heap[pb]? = some (.cells #[.pointer (some ⟨(ad.add (j * 11)).block, (ad.add (j * 11)).off + 5, none⟩), .pointer (some ⟨(ad.add (j * 11)).block, (ad.add (j * 11)).off + 6, none⟩), .pointer (some ⟨(ad.add (j * 11)).block, (ad.add (j * 11)).off + 7, none⟩)] 53 (0, 0))) := ⟨HN⟩
                  clear HN
                  go_loopw [113] (fun vS wr => ∃ i : Nat, vS = .int .i64 i ∧ i ≤ 3 ∧ Aside0 (ST w0 wr cb rq g p f B2 m2 x2 (some ad) m3 (KX xk (j * 11) rj (5 + i)) none 0 [] (nx rj (kw.take (5 + i))) ∧ wr.heap[pb]? = some (.cells #[.pointer (some ⟨(ad.add (j * 11)).block, (ad.add (j * 11)).off + 5, none⟩), .pointer (some ⟨(ad.add (j * 11)).block, (ad.add (j * 11)).off + 6, none⟩), .pointer (some ⟨(ad.add (j * 11)).block, (ad.add (j * 11)).off + 7, none⟩)] 53 (0, 0)))) (fun vS _ => 3 - (intOf vS).toNat)
                  case atStart => exact ⟨0, rfl, by omega, HP0⟩
                  case round =>
                    clear HP0
                    obtain ⟨i, rfl, hi, HQ⟩ := hrel
                    obtain ⟨hA, hPB⟩ := HQ.out
                    have H16 := Aside0.mk hA
                    clear hA HQ
                    by_cases hiL : i < 3
                    · rcases i with _ | _ | _ | i
                      ·
                        have H16 : Aside0 (ST w0 wr cb rq g p f B2 m2 x2 (some ad) m3 (KX xk (j * 11) rj 5) none 0 [] (nx rj (kw.take 5))) := ⟨H16.out⟩
                        have p0 := (blk_cell hPB 0).trans (show _ = some (.pointer (some ⟨(ad.add (j * 11)).block, (ad.add (j * 11)).off + 5, none⟩)) from rfl)
                        go_wp2_with (first | (go_at_call 34; (with_reducible refine (decKi (x3 := xk) (k := j * 11) (r := rj) (i := 5) (n := 1) H16.out (by omega) rfl HM0.out HAB.out HXL.out HQ5.out).mono ?_); rintro e w17 ⟨rfl, hE, h3⟩; have H17 : Aside0 (ST w0 w17 cb rq g p f B2 m2 x2 (some ad) m3 (KX xk (j * 11) rj 6) none 0 [] (nx rj (kw.take 6))) := ⟨hE⟩; have HPB := Aside0.mk ((h3 pb _ hPB).trans hPB); clear hE h3 p0))
                        go_roundw
                        case rel => exact ⟨1, by first | rfl | go_num, by omega, ⟨⟨H17.out, HPB.out⟩⟩⟩
                        case measure => simp [intOf]
                      ·
                        have H16 : Aside0 (ST w0 wr cb rq g p f B2 m2 x2 (some ad) m3 (KX xk (j * 11) rj 6) none 0 [] (nx rj (kw.take 6))) := ⟨H16.out⟩
                        have p0 := (blk_cell hPB 1).trans (show _ = some (.pointer (some ⟨(ad.add (j * 11)).block, (ad.add (j * 11)).off + 6, none⟩)) from rfl)
                        go_wp2_with (first | (go_at_call 34; (with_reducible refine (decKi (x3 := xk) (k := j * 11) (r := rj) (i := 6) (n := 1) H16.out (by omega) rfl HM0.out HAB.out HXL.out HQ6.out).mono ?_); rintro e w17 ⟨rfl, hE, h3⟩; have H17 : Aside0 (ST w0 w17 cb rq g p f B2 m2 x2 (some ad) m3 (KX xk (j * 11) rj 7) none 0 [] (nx rj (kw.take 7))) := ⟨hE⟩; have HPB := Aside0.mk ((h3 pb _ hPB).trans hPB); clear hE h3 p0))
                        go_roundw
                        case rel => exact ⟨2, by first | rfl | go_num, by omega, ⟨⟨H17.out, HPB.out⟩⟩⟩
                        case measure => simp [intOf]
                      ·
                        have H16 : Aside0 (ST w0 wr cb rq g p f B2 m2 x2 (some ad) m3 (KX xk (j * 11) rj 7) none 0 [] (nx rj (kw.take 7))) := ⟨H16.out⟩
                        have p0 := (blk_cell hPB 2).trans (show _ = some (.pointer (some ⟨(ad.add (j * 11)).block, (ad.add (j * 11)).off + 7, none⟩)) from rfl)
                        go_wp2_with (first | (go_at_call 34; (with_reducible refine (decKi (x3 := xk) (k := j * 11) (r := rj) (i := 7) (n := 1) H16.out (by omega) rfl HM0.out HAB.out HXL.out HQ7.out).mono ?_); rintro e w17 ⟨rfl, hE, h3⟩; have H17 : Aside0 (ST w0 w17 cb rq g p f B2 m2 x2 (some ad) m3 (KX xk (j * 11) rj 8) none 0 [] (nx rj (kw.take 8))) := ⟨hE⟩; have HPB := Aside0.mk ((h3 pb _ hPB).trans hPB); clear hE h3 p0))
                        go_roundw
                        case rel => exact ⟨3, by first | rfl | go_num, by omega, ⟨⟨H17.out, HPB.out⟩⟩⟩
                        case measure => simp [intOf]
                      · omega
                    · obtain rfl : i = 3 := by omega
                      have H16 : Aside0 (ST w0 wr cb rq g p f B2 m2 x2 (some ad) m3 (KX xk (j * 11) rj 8) none 0 [] (nx rj (kw.take 8))) := ⟨H16.out⟩
                      clear hPB hiL hi
                      go_upto_region 28 with (first | (go_at_call 34; (with_reducible refine (decKi (x3 := xk) (k := j * 11) (r := rj) (i := 8) (n := 4) H16.out (by omega) rfl HM0.out HAB.out HXL.out HQ8.out).mono ?_); rintro e w18 ⟨rfl, hE, h3⟩; have H18 : Aside0 (ST w0 w18 cb rq g p f B2 m2 x2 (some ad) m3 (KX xk (j * 11) rj 9) none 0 [] (nx rj (kw.take 9))) := ⟨hE⟩; clear hE h3))
                      go_upto_region 29 with (first | (go_at_call 34; (with_reducible refine (decKi (x3 := xk) (k := j * 11) (r := rj) (i := 9) (n := 1) H18.out (by omega) rfl HM0.out HAB.out HXL.out HQ9.out).mono ?_); rintro e w19 ⟨rfl, hE, h3⟩; have H19 : Aside0 (ST w0 w19 cb rq g p f B2 m2 x2 (some ad) m3 (KX xk (j * 11) rj 10) none 0 [] (nx rj (kw.take 10))) := ⟨hE⟩; clear hE h3))
                      go_wp2_with (first | (go_at_call 34; (with_reducible refine (decKi (x3 := xk) (k := j * 11) (r := rj) (i := 10) (n := 1) H19.out (by omega) rfl HM0.out HAB.out HXL.out HQ10.out).mono ?_); rintro e w20 ⟨rfl, hE, h3⟩; have H20 : Aside0 (ST w0 w20 cb rq g p f B2 m2 x2 (some ad) m3 (KX xk (j * 11) rj 11) none 0 [] (nx rj (kw.take 11))) := ⟨hE⟩; clear hE h3))
                      rw [HRN.out] at H20
                      have HEQ : Aside0 (ST w0 w20 cb rq g p f B2 m2 x2 (some ad) m3 (soFar 11 flK (liR nxK rdK r3 (j + 1)) m3) none 0 [] (itR nxK r3 (j + 1))) := ⟨by have h := H20.out; rw [← ES.out] at h; exact h⟩
                      go_roundw
                      case rel => exact ⟨j + 1, by go_num, by omega, HEQ⟩
                      case measure => simp [intOf]; omega
        · have d1 : decide ((j : Int) < (m3 : Int)) = false := decide_eq_false (by omega)
          have d1n : decide (j < m3) = false := decide_eq_false hlt
          obtain rfl : m3 = j := by omega
          obtain ⟨x3, hx⟩ : ∃ x, soFar 11 flK (liR nxK rdK r3 m3) m3 = x := ⟨_, rfl⟩
          obtain ⟨r4, hr4⟩ : ∃ x, itR nxK r3 m3 = x := ⟨_, rfl⟩
          rw [hx, hr4] at H12
          have E8 := Aside0.mk hx
          have E9 := Aside0.mk hr4
          clear hx hr4
          have hm4 : (Wi.nextV r4 1).toNat ≤ 255 := by have := nextV1_bd H12.out.db.rd.wf; omega
          go_upto_region 32 with (first | (go_at_call 52; (with_reducible refine (cntA H12.out).mono ?_); rintro e w21 ⟨rfl, B4, hE⟩; have H21 : Aside0 (ST w0 w21 cb rq g p f B2 m2 x2 B3 m3 x3 B4 (Wi.nextV r4 1).toNat (soFar 1 flA (liR nxA rdA (Wi.next r4 1) 0) (Wi.nextV r4 1).toNat) (itR nxA (Wi.next r4 1) 0)) := ⟨hE⟩; clear hE; clear c0 c1 c2 c3 c4))
          obtain ⟨m4, hm⟩ : ∃ m, (Wi.nextV r4 1).toNat = m := ⟨_, rfl⟩
          obtain ⟨r5, hr5⟩ : ∃ x, Wi.next r4 1 = x := ⟨_, rfl⟩
          rw [hm, hr5] at H21
          rw [hm] at hm4
          have E10 := Aside0.mk hm
          have E11 := Aside0.mk hr5
          clear hm hr5
          have c0 := (blk_cell H21.out.bk 0).trans (show _ = some (.int .i64 p) from rfl)
          have c1 := (blk_cell H21.out.bk 1).trans (show _ = some (.int .i64 f) from rfl)
          have c2 := (blk_cell H21.out.bk 2).trans (show _ = some (.slice B2 m2 m2) from rfl)
          have c3 := (blk_cell H21.out.bk 3).trans (show _ = some (.slice B3 m3 m3) from rfl)
          have c4 := (blk_cell H21.out.bk 4).trans (show _ = some (.slice B4 m4 m4) from rfl)
          clear H12
          go_wp2
          go_loopw [147] (fun v147 wr => ∃ i : Nat, v147 = .int .i64 i ∧ i ≤ m4 ∧ Aside0 (ST w0 wr cb rq g p f B2 m2 x2 B3 m3 x3 B4 m4 (soFar 1 flA (liR nxA rdA r5 i) m4) (itR nxA r5 i))) (fun v147 _ => m4 - (intOf v147).toNat)
          case atStart => exact ⟨0, rfl, by omega, H21⟩
          case round =>
            clear H21 c0 c1 c2 c3 c4 d1 d1n hlt hj
            rename_i gv147
            obtain ⟨j, rfl, hj, H22⟩ := hrel
            have c0 := (blk_cell H22.out.bk 0).trans (show _ = some (.int .i64 p) from rfl)
            have c1 := (blk_cell H22.out.bk 1).trans (show _ = some (.int .i64 f) from rfl)
            have c2 := (blk_cell H22.out.bk 2).trans (show _ = some (.slice B2 m2 m2) from rfl)
            have c3 := (blk_cell H22.out.bk 3).trans (show _ = some (.slice B3 m3 m3) from rfl)
            have c4 := (blk_cell H22.out.bk 4).trans (show _ = some (.slice B4 m4 m4) from rfl)
            by_cases hlt : j < m4
            · have d1 : decide ((j : Int) < (m4 : Int)) = true := decide_eq_true (by omega)
              have d1n : decide (j < m4) = true := decide_eq_true hlt
              have hj0 : 0 ≤ (j : Int) := by omega
              have hj1 : (j : Int) < m4 := by omega
              obtain ⟨nb, hn1, hB, hn2⟩ := H22.out.a.at (by omega)
              obtain ⟨ad, HAD, hB2⟩ : ∃ ad, Aside0 (ad = (⟨nb, 0, none⟩ : Addr)) ∧ B4 = some ad := ⟨_, ⟨rfl⟩, hB⟩
              clear hB hn1 hn2
              subst hB2
              have HAB : Aside0 (some ad = some (⟨nb, 0, none⟩ : Addr)) := ⟨congrArg some HAD.out⟩
              have HM0 : Aside0 (0 < m4) := ⟨by omega⟩
              have HXL : Aside0 (j < (soFar 1 flA (liR nxA rdA r5 j) m4).length) := ⟨by rw [lenA hj]; omega⟩
              have HQ0 : Aside0 (ad.add j = ⟨nb, j, none⟩) := ⟨add_at HAD.out _⟩
              go_wp2_with (first | (go_at_call 34; (with_reducible refine (decAn H22.out 1 HM0.out HAB.out HXL.out HQ0.out).mono ?_); rintro e w23 ⟨rfl, hE⟩; have H23 : Aside0 (ST w0 w23 cb rq g p f B2 m2 x2 B3 m3 x3 (some ad) m4 (soFar 1 flA (liR nxA rdA r5 (j + 1)) m4) (itR nxA r5 (j + 1))) := ⟨by rw [rndA hlt] at hE; exact hE⟩; clear hE; clear c0 c1 c2 c3 c4))
              go_roundw
              case rel => exact ⟨j + 1, by go_num, by omega, H23⟩
              case measure => simp [intOf]; omega
            · have d1 : decide ((j : Int) < (m4 : Int)) = false := decide_eq_false (by omega)
              have d1n : decide (j < m4) = false := decide_eq_false hlt
              obtain rfl : m4 = j := by omega
              have HF : Aside0 (DC w0 wr cb rq g r B2 B3 B4) := ⟨dec_fin H22.out E1.out E2.out E3.out (by rw [ED.out]; exact E4.out) (by rw [ED.out]; exact E5.out) E6.out E7.out E8.out E9.out E10.out E11.out⟩
              go_wp2
              go_end0
              exact ⟨rfl, _, _, _, HF.out⟩
end Go.Proofs.YtdebbanloopcgaaDoor.Tb

/- Layer 5 (table): a config that was read, as its readers want it; what Decode answers, in plain words. -/
set_option linter.unusedVariables false
set_option linter.unusedSimpArgs false
namespace Go.Proofs.YtdebbanloopcgaaDoor.Tb
open Go Go.RowKit Go.Proofs.YtdebbanloopcgaaDoorW.PrintWords Go.Proofs.YtdebbanloopcgaaDoorW.PrintLast Go.Proofs.YtdebbanloopcgaaDoorW.PrintMore Go.Proofs.YtdebbanloopcgaaDoor.Cz Go.Proofs.YtdebbanloopcgaaDoor.PTableWrites Go.Proofs.YtdebbanloopcgaaDoor.Cf
theorem flat_at {α : Type} {fl : α → List Int} {n : Nat} (h : ∀ x, (fl x).length = n) : ∀ {l : List α} {j i : Nat} {p : α} {x : Int}, l[j]? = some p → (fl p)[i]? = some x → (l.flatMap fl)[j * n + i]? = some x
  | [], _, _, _, _, hj, _ => by simp at hj
  | y :: t, 0, i, p, x, hj, hx => by
    have e : y = p := by simpa using hj
    subst e
    rw [List.flatMap_cons, Nat.zero_mul, Nat.zero_add, List.getElem?_append_left (List.getElem?_eq_some_iff.1 hx).1]
    exact hx
  | y :: t, j + 1, i, p, x, hj, hx => by
    have hy := h y
    have hm : (j + 1) * n = j * n + n := Nat.succ_mul j n
    rw [List.flatMap_cons, List.getElem?_append_right (by omega), hy, show (j + 1) * n + i - n = j * n + i by omega]
    exact flat_at h (by simpa using hj) hx
theorem rw_C {α : Type} {d : Kd α} {fl : α → List Int} {n : Nat} (hsz : d.sz = n) (hfl : ∀ x, (fl x).length = n) (hmk : ∀ W x, d.K W x ((fl x).map (.int .i64))) {W : World} {T nb : Nat} {l : List α} (h : RW W T nb (l.flatMap fl)) (hb : l.length ≤ 255) : Kd.C d W (some ⟨nb, 0, none⟩) l.length l := by
  obtain ⟨cs, h1, h2, h3⟩ := h
  refine ⟨rfl, by omega, fun _ => ⟨_, rfl, fun j p hj => ⟨(fl p).map (.int .i64), by rw [List.length_map, hfl, hsz], hmk W p, fun i u hu => ?_⟩⟩⟩
  rw [hsz, add_at rfl]
  rw [List.getElem?_map] at hu
  obtain ⟨x, hx, hxu⟩ := Option.map_eq_some_iff.1 hu
  subst hxu
  exact (blk_cell h1 _).trans (h3 _ _ (flat_at hfl hj hx))
theorem ro_C {α : Type} {d : Kd α} {fl : α → List Int} {n : Nat} (hsz : d.sz = n) (hfl : ∀ x, (fl x).length = n) (hmk : ∀ W x, d.K W x ((fl x).map (.int .i64))) {w0 W : World} {T m : Nat} {B : Option Addr} {l : List α} (h : RO w0 W T B m (l.flatMap fl)) (hl : l.length = m) (hb : m ≤ 255) : Kd.C d W B l.length l := by
  rcases h with ⟨h1, h2, h3⟩ | ⟨h1, nb, h2, h3, h4⟩
  · refine ⟨rfl, by omega, fun h => by omega⟩
  · rw [h3]
    exact rw_C hsz hfl hmk h4 (by omega)
theorem RO.mv {w0 W W' : World} {T : Nat} {B : Option Addr} {m : Nat} {vs : List Int} (h : RO w0 W T B m vs) (hm : ∀ b, w0.heap.size ≤ b → b < W.heap.size → W'.heap[b]? = W.heap[b]?) : RO w0 W' T B m vs := by
  rcases h with h | ⟨h1, nb, h2, h3, h4⟩
  · exact .inl h
  · obtain ⟨cs, h5, h6⟩ := id h4
    exact .inr ⟨h1, nb, h2, h3, h4.same (hm nb h2 (blk_lt h5))⟩
/-- A config that was read, its reader behind it. -/
structure DX (w0 W : World) (cb rq g : Nat) (C : Cfg) (r : Wi.Rd) (B2 : Option Addr) (c2 : Nat) (B3 : Option Addr) (c3 : Nat) (B4 : Option Addr) (c4 : Nat) : Prop where
  db : DB W rq g r
  bk : W.heap[cb]? = some (.cells #[.int .i64 C.p, .int .i64 C.f, .slice B2 C.ws.length c2, .slice B3 C.ks.length c3, .slice B4 C.ac.length c4] 26 (0, 0))
  mv : ∀ W', (∀ b, w0.heap.size ≤ b → b < W.heap.size → W'.heap[b]? = W.heap[b]?) → CX W' C B2 c2 B3 c3 B4 c4
  bel : Below w0.heap.size w0 W
  hl : C.ws.length ≤ 255 ∧ C.ks.length ≤ 255 ∧ C.ac.length ≤ 255
theorem nx_wf : ∀ {l : List Int} {r : Wi.Rd}, Wi.WF r.b → Wi.WF (nx r l).b
  | [], _, h => h
  | n :: t, r, h => nx_wf (l := t) (Wi.next_wf h n)
theorem itR_wf {f : Wi.Rd → Wi.Rd} (hf : ∀ r, Wi.WF r.b → Wi.WF (f r).b) {r : Wi.Rd} (h : Wi.WF r.b) : ∀ j, Wi.WF (itR f r j).b
  | 0 => h
  | j + 1 => hf _ (itR_wf hf h j)
theorem eW_wf {r : Wi.Rd} (h : Wi.WF r.b) : Wi.WF (eW r).b := itR_wf (fun _ h => nx_wf h) (nx_wf h) _
theorem eK_wf {r : Wi.Rd} (h : Wi.WF r.b) : Wi.WF (eK r).b := itR_wf (fun _ h => nx_wf h) (Wi.next_wf (eW_wf h) 1) _
theorem mW_le {r : Wi.Rd} (h : Wi.WF r.b) : mW r ≤ 255 := by have := nextV1_bd (nx_wf (l := [1, 1]) h); unfold mW; omega
theorem mK_le {r : Wi.Rd} (h : Wi.WF r.b) : mK r ≤ 255 := by have := nextV1_bd (eW_wf h); unfold mK; omega
theorem mA_le {r : Wi.Rd} (h : Wi.WF r.b) : mA r ≤ 255 := by have := nextV1_bd (eK_wf h); unfold mA; omega
theorem DC.dx {w0 W : World} {cb rq g : Nat} {r : Wi.Rd} {B2 B3 B4 : Option Addr} (h : DC w0 W cb rq g r B2 B3 B4) (hf : Wi.WF r.b) : DX w0 W cb rq g (decC r) (eA r) B2 (mW r) B3 (mK r) B4 (mA r) := by
  have e2 : (decC r).ws.length = mW r := liR_len _
  have e3 : (decC r).ks.length = mK r := liR_len _
  have e4 : (decC r).ac.length = mA r := liR_len _
  have l2 := mW_le hf
  have l3 := mK_le hf
  have l4 := mA_le hf
  refine ⟨h.db, by rw [e2, e3, e4]; exact h.bk, fun W' hm => ?_, h.bel, by omega⟩
  exact ⟨ro_C rfl flW_len (fun W x => k46_mk W x) (h.w.mv hm) e2 l2, by omega, ro_C rfl flK_len (fun W x => k57_mk W x) (h.k.mv hm) e3 l3, by omega, ro_C rfl flA_len (fun _ _ => rfl) (h.a.mv hm) e4 l4, by omega⟩
theorem DX.cx {w0 W : World} {cb rq g : Nat} {C : Cfg} {r : Wi.Rd} {B2 B3 B4 : Option Addr} {c2 c3 c4 : Nat} (h : DX w0 W cb rq g C r B2 c2 B3 c3 B4 c4) : CX W C B2 c2 B3 c3 B4 c4 := h.mv W (fun _ _ _ => rfl)
theorem DB.rqg {W : World} {rq g : Nat} {r : Wi.Rd} (h : DB W rq g r) : rq ≠ g := by
  intro e
  subst e
  obtain ⟨cs', hc'⟩ := h.rd.blk
  have := h.rq.symm.trans hc'
  simp at this
/-- Before the config is read. -/
structure DS (w0 W : World) (rq g : Nat) (r : Wi.Rd) : Prop where
  db : DB W rq g r
  bel : Below w0.heap.size w0 W
  hg : w0.heap.size ≤ g
theorem DS.far {w0 W W' : World} {rq g : Nat} {r : Wi.Rd} (h : DS w0 W rq g r) (hb : Below W.heap.size W W') : DS w0 W' rq g r := ⟨h.db.far hb, below_step h.bel hb, h.hg⟩
theorem DS.next {w0 W W' : World} {rq g : Nat} {r r' : Wi.Rd} (h : DS w0 W rq g r) (hr : Wi.RD W' g r') (hg : W.grownBy W' (some g)) : DS w0 W' rq g r' :=
  ⟨⟨blk_grown h.db.rq hg (fun e => h.db.rqg (Option.some.inj e)), hr⟩, Wi.below_grown h.bel hg (fun k hk => by cases hk; exact h.hg), h.hg⟩
/-- all's memory at its start. -/
theorem DS.st {w0 W : World} {rq g : Nat} {r : Wi.Rd} (h : DS w0 W rq g r) : ST w0 (W.alloc (.cells #[.int .i64 0, .int .i64 0, .slice none 0 0, .slice none 0 0, .slice none 0 0] 26)) W.heap.size rq g 0 0 none 0 [] none 0 [] none 0 [] r := by
  have hb := below_alloc (Below.refl W.heap.size W) (.cells #[.int .i64 0, .int .i64 0, .slice none 0 0, .slice none 0 0, .slice none 0 0] 26)
  exact ⟨h.db.far hb, blk_new _ _, below_step h.bel hb, h.bel.size, h.hg, RO.none _ _ _, RO.none _ _ _, RO.none _ _ _⟩
theorem put5 {W : World} {g : Nat} {a0 a1 a2 a3 a4 v0 v1 v2 v3 v4 : Value} {T : TypeId} (h : W.heap[g]? = some (.cells #[a0, a1, a2, a3, a4] T (0, 0))) :
    (((((W.setCell ⟨g, 0, none⟩ v0).setCell ⟨g, 1, none⟩ v1).setCell ⟨g, 2, none⟩ v2).setCell ⟨g, 3, none⟩ v3).setCell ⟨g, 4, none⟩ v4).heap[g]? = some (.cells #[v0, v1, v2, v3, v4] T (0, 0)) :=
  blk_put (blk_put (blk_put (blk_put (blk_put h 0 v0 rfl) 1 v1 rfl) 2 v2 rfl) 3 v3 rfl) 4 v4 rfl
theorem bel5 {w W : World} {g : Nat} {v0 v1 v2 v3 v4 : Value} (h : Below w.heap.size w W) (hg : w.heap.size ≤ g) :
    Below w.heap.size w (((((W.setCell ⟨g, 0, none⟩ v0).setCell ⟨g, 1, none⟩ v1).setCell ⟨g, 2, none⟩ v2).setCell ⟨g, 3, none⟩ v3).setCell ⟨g, 4, none⟩ v4) :=
  below_set (below_set (below_set (below_set (below_set h hg) hg) hg) hg) hg
theorem off5 {W : World} {g b : Nat} {v0 v1 v2 v3 v4 : Value} (h : b ≠ g) :
    (((((W.setCell ⟨g, 0, none⟩ v0).setCell ⟨g, 1, none⟩ v1).setCell ⟨g, 2, none⟩ v2).setCell ⟨g, 3, none⟩ v3).setCell ⟨g, 4, none⟩ v4).heap[b]? = W.heap[b]? :=
  ((((Below.heap_setCell _ _ _ b h).trans (Below.heap_setCell _ _ _ b h)).trans (Below.heap_setCell _ _ _ b h)).trans (Below.heap_setCell _ _ _ b h)).trans (Below.heap_setCell _ _ _ b h)
/-! What Decode answers. -/
def nilC : Cfg := ⟨0, 0, [], [], []⟩
theorem nil_cx (W : World) : CX W nilC none 0 none 0 none 0 := ⟨Kd.C_nil _ _, Nat.le_refl _, Kd.C_nil _ _, Nat.le_refl _, Kd.C_nil _ _, Nat.le_refl _⟩
/-- The reader behind the first two bytes. -/
def r2 (xs : List Int) : Wi.Rd := Wi.next (Wi.next ⟨Wi.opB xs, 0⟩ 1) 1
def decE (xs : List Int) : Int :=
  if Wi.opE xs ≠ 0 then Wi.opE xs else if (r2 xs).e ≠ 0 then (r2 xs).e else if Wi.nextV ⟨Wi.opB xs, 0⟩ 1 ≠ 231 then 8 else if Wi.nextV (Wi.next ⟨Wi.opB xs, 0⟩ 1) 1 ≠ 1 then 8
  else if Wi.endE (eA (r2 xs)) ≠ 0 then Wi.endE (eA (r2 xs)) else (chk (decC (r2 xs))).e
def decCf (xs : List Int) : Cfg := if decE xs = 0 then decC (r2 xs) else nilC
theorem r2_wf {xs : List Int} (h : Wi.WF xs) : Wi.WF (r2 xs).b := Wi.next_wf (Wi.next_wf (by unfold Wi.opB; split; exact h.take _; exact Wi.WF.nil) 1) 1
theorem decCf_len {xs : List Int} (h : Wi.WF xs) : (decCf xs).ws.length ≤ 255 ∧ (decCf xs).ks.length ≤ 255 ∧ (decCf xs).ac.length ≤ 255 := by
  unfold decCf
  split
  · have e2 : (decC (r2 xs)).ws.length = mW (r2 xs) := liR_len _
    have e3 : (decC (r2 xs)).ks.length = mK (r2 xs) := liR_len _
    have e4 : (decC (r2 xs)).ac.length = mA (r2 xs) := liR_len _
    have := mW_le (r2_wf h)
    have := mK_le (r2_wf h)
    have := mA_le (r2_wf h)
    omega
  · decide
/-- Decode's answer: the config and its error. -/
def DA (w w' : World) (xs : List Int) (e : Ending) : Prop := ∃ B2 c2 B3 c3 B4 c4, e = .returned (.tuple #[.agg #[.int .i64 (decCf xs).p, .int .i64 (decCf xs).f, .slice B2 (decCf xs).ws.length c2, .slice B3 (decCf xs).ks.length c3, .slice B4 (decCf xs).ac.length c4], .int .i64 (decE xs)]) ∧ CX w' (decCf xs) B2 c2 B3 c3 B4 c4 ∧ Below w.heap.size w w'
theorem DA.no {w w' : World} {xs : List Int} {e : Ending} {q : Int} (hq : decE xs = q) (h0 : q ≠ 0) (he : e = .returned (.tuple #[.agg #[.int .i64 0, .int .i64 0, .slice none 0 0, .slice none 0 0, .slice none 0 0], .int .i64 q])) (hb : Below w.heap.size w w') : DA w w' xs e := by
  have hc : decCf xs = nilC := by unfold decCf; rw [hq, if_neg h0]
  refine ⟨none, 0, none, 0, none, 0, ?_, ?_, hb⟩
  · rw [hc, hq]
    exact he
  · rw [hc]
    exact nil_cx _
theorem DA.yes {w w' : World} {xs : List Int} {e : Ending} {C : Cfg} {B2 B3 B4 : Option Addr} {c2 c3 c4 : Nat} (hq : decE xs = 0) (hC : decC (r2 xs) = C) (he : e = .returned (.tuple #[.agg #[.int .i64 C.p, .int .i64 C.f, .slice B2 C.ws.length c2, .slice B3 C.ks.length c3, .slice B4 C.ac.length c4], .int .i64 0])) (hx : CX w' C B2 c2 B3 c3 B4 c4) (hb : Below w.heap.size w w') : DA w w' xs e := by
  have hc : decCf xs = C := by unfold decCf; rw [hq, if_pos rfl, hC]
  refine ⟨B2, c2, B3, c3, B4, c4, ?_, ?_, hb⟩
  · rw [hc, hq]
    exact he
  · rw [hc]
    exact hx
end Go.Proofs.YtdebbanloopcgaaDoor.Tb
