/- Rows of numbers (bytes, ints), read and made: one structure for what is read, one for the call's own; literals and appends. -/
import Derived.Test.YtjgianmcllkagaaBase
set_option linter.unusedVariables false
set_option linter.unusedSimpArgs false
namespace Go.Proofs.Ytjgianmcllkagaa.Wi
open Go.RowKit Go.Proofs.YtjgianmcllkagaaW.PrintWords Go.Proofs.YtjgianmcllkagaaW.PrintLast Go.Proofs.YtjgianmcllkagaaW.PrintMore
/-- Numbers that are read. -/
structure CI (k : IntKind) (W : World) (A : Option Addr) (cap : Nat) (xs : List Int) : Prop where
  c : (Kd.int k).C W A xs.length xs
  le : xs.length ≤ cap
/-- Numbers of the call's own. -/
structure OI (k : IntKind) (e : TypeId) (w0 W : World) (v : Value) (xs : List Int) : Prop where
  r : (Kd.int k).R e W w0.heap.size (fun k => w0.heap.size ≤ k) v xs
  bel : Below w0.heap.size w0 W
section
variable {k : IntKind} {e : TypeId} {w0 w1 W W' : World} {A : Option Addr} {v : Value} {c : Nat} {xs : List Int}
theorem CI.below (h : CI k W A c xs) (hb : Below W.heap.size W W') : CI k W' A c xs := ⟨Kd.C_below h.c hb, h.le⟩
theorem CI.nil (k : IntKind) (W : World) : CI k W none 0 [] := ⟨Kd.C_nil _ _, Nat.le_refl _⟩
theorem CI.at_ (h : CI k W A c xs) {i : Nat} (h1 : i < xs.length) : ∃ ad, A = some ad ∧ W.cell? (ad.add i) = some (.int k (rd xs i)) := Kd.at_int h.c (i : Int) (by omega) (by omega)
theorem CI.take (h : CI k W A c xs) {m : Nat} (hm : m ≤ xs.length) : CI k W A c (xs.take m) := ⟨Kd.C_take h.c hm, by have := h.le; rw [List.length_take]; omega⟩
theorem CI.drop (h : CI k W A c xs) {m : Nat} (hm : m ≤ xs.length) : CI k W (if c = m then A else A.map (·.add m)) (c - m) (xs.drop m) := by
  have h1 := Kd.C_drop h.c hm h.le
  have h2 : m * (Kd.int k).sz = m := Nat.mul_one m
  rw [h2] at h1
  exact ⟨h1, by have := h.le; rw [List.length_drop]; omega⟩
theorem OI.reads (h : OI k e w0 W v xs) : ∃ A c, v = .slice A xs.length c ∧ CI k W A c xs := by
  obtain ⟨A, c, e, hl, hc⟩ := Kd.R_reads h.r
  exact ⟨A, c, e, hc, hl⟩
theorem OI.nil (k : IntKind) (e : TypeId) (hb : Below w0.heap.size w0 W) : OI k e w0 W (.slice none 0 0) [] := ⟨Kd.R_nil _ _ _ _ _, hb⟩
theorem OI.far (h : OI k e w0 W v xs) (hb : Below W.heap.size W W') : OI k e w0 W' v xs := ⟨Kd.R_below h.r hb, below_step h.bel hb⟩
theorem OI.less (h : OI k e w1 W v xs) (hb : Below w0.heap.size w0 w1) : OI k e w0 W v xs :=
  ⟨Kd.R_mono (Kd.R_lower h.r hb.size) (fun k hk => Nat.le_trans hb.size hk), below_step hb h.bel⟩
theorem below_grown {row : Option Nat} (h : Below w0.heap.size w0 W) (hg : W.grownBy W' row) (hne : ∀ k, row = some k → w0.heap.size ≤ k) : Below w0.heap.size w0 W' :=
  h.trans ⟨hg.os, hg.tape, hg.output, hg.size, fun k hk => hg.block k (Nat.lt_of_lt_of_le hk h.size) (fun e => by have := hne k e.symm; omega)⟩
theorem OI.grown {row : Option Nat} (h : OI k e w0 W v xs) (hg : W.grownBy W' row) (hb : ∀ k, row = some k → w0.heap.size ≤ k) (hne : ∀ k, row = some k → v.ownBlock ≠ some k) : OI k e w0 W' v xs := by
  refine ⟨Kd.R_mono (ok := fun k => w0.heap.size ≤ k ∧ some k ≠ row) (Kd.R_grown (row := row) (Kd.R_mono (Kd.R_tight rfl h.r) (fun k hk => ?_)) hg (fun k hk => hk.2)) (fun k hk => hk.1), below_grown h.bel hg hb⟩
  exact ⟨h.r.1 k hk.symm, fun e => (hne k e.symm) hk.symm⟩
/-- The block of one's own row is of the row's type. -/
theorem OI.typed (h : OI k e w0 W v xs) : ∀ b, v.ownBlock = some b → w0.heap.size ≤ b ∧ ∃ cells, W.heap[b]? = some (.cells cells e (0, 0)) := fun b hb => by
  obtain ⟨inner, ho⟩ := Kd.R_own h.r
  exact ⟨h.r.1 b hb, own_typed ho b hb⟩
end
section
variable {P : Program} {ops : Array Oper} {rest : List Oper} {o : Oper} {a : Act} {Q : Exit → Act → World → Prop} {W : World}
theorem lit_ints {k : IntKind} {e : TypeId} (hgd : o.guard = none) {N : Tmp} (_hd : o.dst = some N) (ys : List Int) (inner : Array Value)
    (hrun : (execOp a.eval o).run P W = .ok (.value (.slice (some ⟨W.heap.size, 0, none⟩) ys.length ys.length)) (W.alloc (.cells inner e))) (hi : inner.toList = ys.map (Value.int k)) (hm : ys.length ≤ 1000)
    (h : ∀ A w1, CI k w1 A ys.length ys → OI k e W w1 (.slice A ys.length ys.length) ys → wpList P ops Q rest (a.put o.dst (.slice A ys.length ys.length)) w1) : wpList P ops Q (o :: rest) a W := by
  refine Kd.event_run hgd hrun ?_
  refine h _ _ ⟨⟨rfl, by omega, fun hp => ⟨_, rfl, fun j p hj => ⟨[Value.int k p], rfl, rfl, fun i u hu => ?_⟩⟩⟩, Nat.le_refl _⟩ ⟨Kd.R_of_own ?_ (fun j hj => ?_), below_alloc (Below.refl _ _) _⟩
  rotate_left
  · have hsz : inner.size = ys.length * 1 := by
      rw [← Array.length_toList, hi, List.length_map, Nat.mul_one]
    have h2 := World.ownsRow_lit (base := W.heap.size) (e := e) (size := 1) W inner ys.length (Nat.le_refl _) (by simp [maxLen]; omega) hsz
    have h3 : inner.toList = encs (Value.int k) ys := hi
    rw [← h3]
    exact h2
  · have : W.heap.size = j := by simpa [Value.ownBlock] using hj
    omega
  have hi0 : i = 0 := by
    rcases i with _ | i
    · rfl
    · simp at hu
  subst hi0
  simp at hu
  subst hu
  have hjl : j < ys.length := (List.getElem?_eq_some_iff.1 hj).1
  have hb := blk_new W (.cells inner e)
  show (W.alloc (.cells inner e)).cell? ((⟨W.heap.size, 0, none⟩ : Addr).add (j * 1 + 0)) = _
  rw [show ((⟨W.heap.size, 0, none⟩ : Addr).add (j * 1 + 0)) = ⟨W.heap.size, j, none⟩ by unfold Addr.add; split <;> simp_all]
  rw [cell_of_row _ _ _ _ _ _ hb]
  have : inner[j]? = inner.toList[j]? := by simp
  rw [this, hi, List.getElem?_map, hj]
  rfl
theorem app_ints {k : IntKind} {e : TypeId} {w0 : World} (hgd : o.guard = none) (s x : Operand) (t : TypeId) (bytes : Nat)
    (ho : o.op = .call { callee := .builtin .append, args := #[s, x], argTypes := #[t, t] }) (ht : P.underlying t = some (.slice e)) (hinfo : (P.info? e).map (fun i => (i.zero, i.size, i.bytes)) = some (some (.int k 0), 1, bytes)) (hb0 : 0 < bytes) (hb8 : bytes ≤ 8)
    (v : Value) (xs ys : List Int) (A : Option Addr) (m c : Nat) (hs : a.eval s = v) (hx : a.eval x = .slice A m c) (hm : m = ys.length)
    (HO : OI k e w0 W v xs) (HR : CI k W A c ys) (hl : xs.length + ys.length ≤ 1000000)
    (h : ∀ v1 w1, OI k e w0 w1 v1 (xs ++ ys) → W.grownBy w1 v.ownBlock → (v1.ownBlock = v.ownBlock ∨ ∃ b, v1.ownBlock = some b ∧ W.heap.size ≤ b) → wpList P ops Q rest (a.put o.dst v1) w1) : wpList P ops Q (o :: rest) a W := by
  subst hm
  refine Kd.R_append_row (w0 := w0) (Value.int k) 0 w0.heap.size hgd s x t e (.int k 0) bytes ho ht hinfo rfl hb0 v xs ys A ys.length c (fun k => w0.heap.size ≤ k) hs hx ?_ HO.r HR.c HO.bel HO.bel.size ?_ ?_
  · intro k hk
    exact Nat.le_trans HO.bel.size hk
  · exact Nat.le_trans (Nat.mul_le_mul hl hb8) (by decide)
  · intro v1 w1 hr hb hg hat
    exact h v1 w1 ⟨hr, hb⟩ hg hat
end
end Go.Proofs.Ytjgianmcllkagaa.Wi
