/- Wi, WiMath, WiC, WiPut, WiRef, laid into one text by wip/tmerge.py. -/
import Derived.Test.YtdebbanloopcgaaDoorBase
/- Rows of numbers (bytes, ints), read and made: one structure for what is read, one for the call's own; literals and appends. -/
set_option linter.unusedVariables false
set_option linter.unusedSimpArgs false
namespace Go.Proofs.YtdebbanloopcgaaDoor.Wi
open Go.RowKit Go.Proofs.YtdebbanloopcgaaDoorW.PrintWords Go.Proofs.YtdebbanloopcgaaDoorW.PrintLast Go.Proofs.YtdebbanloopcgaaDoorW.PrintMore
/-- Numbers that are read. -/
structure CI (k : IntKind) (W : World) (A : Option Addr) (cap : Nat) (xs : List Int) : Prop where
  c : (Kd.int k).C W A xs.length xs
  le : xs.length ≤ cap
/-- Numbers of the call's own. -/
structure OI (k : IntKind) (e : TypeId) (w0 W : World) (v : Value) (xs : List Int) : Prop where
  r : (Kd.int k).R e W w0.heap.size (fun k => w0.heap.size ≤ k) v xs
  bel : Below w0.heap.size w0 W
section
variable {k : IntKind} {e : TypeId} {w0 w1 W W' : World} {A : Option Addr} {v : Value} {c : Nat} {xs : List Int}
theorem CI.below (h : CI k W A c xs) (hb : Below W.heap.size W W') : CI k W' A c xs := ⟨Kd.C_below h.c hb, h.le⟩
theorem CI.nil (k : IntKind) (W : World) : CI k W none 0 [] := ⟨Kd.C_nil _ _, Nat.le_refl _⟩
theorem CI.at_ (h : CI k W A c xs) {i : Nat} (h1 : i < xs.length) : ∃ ad, A = some ad ∧ W.cell? (ad.add i) = some (.int k (rd xs i)) := Kd.at_int h.c (i : Int) (by omega) (by omega)
theorem CI.take (h : CI k W A c xs) {m : Nat} (hm : m ≤ xs.length) : CI k W A c (xs.take m) := ⟨Kd.C_take h.c hm, by have := h.le; rw [List.length_take]; omega⟩
theorem CI.drop (h : CI k W A c xs) {m : Nat} (hm : m ≤ xs.length) : CI k W (if c = m then A else A.map (·.add m)) (c - m) (xs.drop m) := by
  have h1 := Kd.C_drop h.c hm h.le
  have h2 : m * (Kd.int k).sz = m := Nat.mul_one m
  rw [h2] at h1
  exact ⟨h1, by have := h.le; rw [List.length_drop]; omega⟩
theorem OI.reads (h : OI k e w0 W v xs) : ∃ A c, v = .slice A xs.length c ∧ CI k W A c xs := by
  obtain ⟨A, c, e, hl, hc⟩ := Kd.R_reads h.r
  exact ⟨A, c, e, hc, hl⟩
theorem OI.nil (k : IntKind) (e : TypeId) (hb : Below w0.heap.size w0 W) : OI k e w0 W (.slice none 0 0) [] := ⟨Kd.R_nil _ _ _ _ _, hb⟩
theorem OI.far (h : OI k e w0 W v xs) (hb : Below W.heap.size W W') : OI k e w0 W' v xs := ⟨Kd.R_below h.r hb, below_step h.bel hb⟩
theorem OI.less (h : OI k e w1 W v xs) (hb : Below w0.heap.size w0 w1) : OI k e w0 W v xs :=
  ⟨Kd.R_mono (Kd.R_lower h.r hb.size) (fun k hk => Nat.le_trans hb.size hk), below_step hb h.bel⟩
theorem below_grown {row : Option Nat} (h : Below w0.heap.size w0 W) (hg : W.grownBy W' row) (hne : ∀ k, row = some k → w0.heap.size ≤ k) : Below w0.heap.size w0 W' :=
  h.trans ⟨hg.os, hg.tape, hg.output, hg.size, fun k hk => hg.block k (Nat.lt_of_lt_of_le hk h.size) (fun e => by have := hne k e.symm; omega)⟩
theorem OI.grown {row : Option Nat} (h : OI k e w0 W v xs) (hg : W.grownBy W' row) (hb : ∀ k, row = some k → w0.heap.size ≤ k) (hne : ∀ k, row = some k → v.ownBlock ≠ some k) : OI k e w0 W' v xs := by
  refine ⟨Kd.R_mono (ok := fun k => w0.heap.size ≤ k ∧ some k ≠ row) (Kd.R_grown (row := row) (Kd.R_mono (Kd.R_tight rfl h.r) (fun k hk => ?_)) hg (fun k hk => hk.2)) (fun k hk => hk.1), below_grown h.bel hg hb⟩
  exact ⟨h.r.1 k hk.symm, fun e => (hne k e.symm) hk.symm⟩
/-- The block of one's own row is of the row's type. -/
theorem OI.typed (h : OI k e w0 W v xs) : ∀ b, v.ownBlock = some b → w0.heap.size ≤ b ∧ ∃ cells, W.heap[b]? = some (.cells cells e (0, 0)) := fun b hb => by
  obtain ⟨inner, ho⟩ := Kd.R_own h.r
  exact ⟨h.r.1 b hb, own_typed ho b hb⟩
end
section
variable {P : Program} {ops : Array Oper} {rest : List Oper} {o : Oper} {a : Act} {Q : Exit → Act → World → Prop} {W : World}
theorem lit_ints {k : IntKind} {e : TypeId} (hgd : o.guard = none) {N : Tmp} (_hd : o.dst = some N) (ys : List Int) (inner : Array Value)
    (hrun : (execOp a.eval o).run P W = .ok (.value (.slice (some ⟨W.heap.size, 0, none⟩) ys.length ys.length)) (W.alloc (.cells inner e))) (hi : inner.toList = ys.map (Value.int k)) (hm : ys.length ≤ 1000)
    (h : ∀ A w1, CI k w1 A ys.length ys → OI k e W w1 (.slice A ys.length ys.length) ys → wpList P ops Q rest (a.put o.dst (.slice A ys.length ys.length)) w1) : wpList P ops Q (o :: rest) a W := by
  refine Kd.event_run hgd hrun ?_
  refine h _ _ ⟨⟨rfl, by omega, fun hp => ⟨_, rfl, fun j p hj => ⟨[Value.int k p], rfl, rfl, fun i u hu => ?_⟩⟩⟩, Nat.le_refl _⟩ ⟨Kd.R_of_own ?_ (fun j hj => ?_), below_alloc (Below.refl _ _) _⟩
  rotate_left
  · have hsz : inner.size = ys.length * 1 := by
      rw [← Array.length_toList, hi, List.length_map, Nat.mul_one]
    have h2 := World.ownsRow_lit (base := W.heap.size) (e := e) (size := 1) W inner ys.length (Nat.le_refl _) (by simp [maxLen]; omega) hsz
    have h3 : inner.toList = encs (Value.int k) ys := hi
    rw [← h3]
    exact h2
  · have : W.heap.size = j := by simpa [Value.ownBlock] using hj
    omega
  have hi0 : i = 0 := by
    rcases i with _ | i
    · rfl
    · simp at hu
  subst hi0
  simp at hu
  subst hu
  have hjl : j < ys.length := (List.getElem?_eq_some_iff.1 hj).1
  have hb := blk_new W (.cells inner e)
  show (W.alloc (.cells inner e)).cell? ((⟨W.heap.size, 0, none⟩ : Addr).add (j * 1 + 0)) = _
  rw [show ((⟨W.heap.size, 0, none⟩ : Addr).add (j * 1 + 0)) = ⟨W.heap.size, j, none⟩ by unfold Addr.add; split <;> simp_all]
  rw [cell_of_row _ _ _ _ _ _ hb]
  have : inner[j]? = inner.toList[j]? := by simp
  rw [this, hi, List.getElem?_map, hj]
  rfl
theorem app_ints {k : IntKind} {e : TypeId} {w0 : World} (hgd : o.guard = none) (s x : Operand) (t : TypeId) (bytes : Nat)
    (ho : o.op = .call { callee := .builtin .append, args := #[s, x], argTypes := #[t, t] }) (ht : P.underlying t = some (.slice e)) (hinfo : (P.info? e).map (fun i => (i.zero, i.size, i.bytes)) = some (some (.int k 0), 1, bytes)) (hb0 : 0 < bytes) (hb8 : bytes ≤ 8)
    (v : Value) (xs ys : List Int) (A : Option Addr) (m c : Nat) (hs : a.eval s = v) (hx : a.eval x = .slice A m c) (hm : m = ys.length)
    (HO : OI k e w0 W v xs) (HR : CI k W A c ys) (hl : xs.length + ys.length ≤ 1000000)
    (h : ∀ v1 w1, OI k e w0 w1 v1 (xs ++ ys) → W.grownBy w1 v.ownBlock → (v1.ownBlock = v.ownBlock ∨ ∃ b, v1.ownBlock = some b ∧ W.heap.size ≤ b) → wpList P ops Q rest (a.put o.dst v1) w1) : wpList P ops Q (o :: rest) a W := by
  subst hm
  refine Kd.R_append_row (w0 := w0) (Value.int k) 0 w0.heap.size hgd s x t e (.int k 0) bytes ho ht hinfo rfl hb0 v xs ys A ys.length c (fun k => w0.heap.size ≤ k) hs hx ?_ HO.r HR.c HO.bel HO.bel.size ?_ ?_
  · intro k hk
    exact Nat.le_trans HO.bel.size hk
  · exact Nat.le_trans (Nat.mul_le_mul hl hb8) (by decide)
  · intro v1 w1 hr hb hg hat
    exact h v1 w1 ⟨hr, hb⟩ hg hat
end
end Go.Proofs.YtdebbanloopcgaaDoor.Wi

/- Layer 3 (wire) in plain words: how many numbers of a width there are, their bytes, sums, what a reader answers. -/
set_option linter.unusedVariables false
set_option linter.unusedSimpArgs false
namespace Go.Proofs.YtdebbanloopcgaaDoor.Wi
open Go.RowKit Go.Proofs.YtdebbanloopcgaaDoorW.PrintWords Go.Proofs.YtdebbanloopcgaaDoorW.PrintLast Go.Proofs.YtdebbanloopcgaaDoorW.PrintMore
/-! What the rows open. -/
abbrev ReadsIntW := @ReadsInt
theorem ofRowW {k : IntKind} {w : World} {a : Option Addr} {len cap : Nat} {zs : List Int} (h : (a = none ∧ len = 0 ∧ cap = 0 ∧ zs = []) ∨ ∃ x, a = some x ∧ len ≤ cap ∧ cap ≤ maxLen ∧ zs.length = cap ∧ (∀ i, i < zs.length → w.cell? (x.add i) = some (.int k (zs.getD i 0))) ∧ ∀ n ∈ zs, (Lit.int k n).wf = true) :
    ∃ l : List Int, len = l.length ∧ ReadsIntW w k a l.length l ∧ l.length ≤ maxLen ∧ (∀ x ∈ l, (Lit.int k x).wf = true) ∧ l.length ≤ cap := ReadsInt.ofRowC h
theorem ci_of {k : IntKind} {w : World} {a : Option Addr} {c : Nat} {xs : List Int} (h : ReadsIntW w k a xs.length xs) (hc : xs.length ≤ c) : CI k w a c xs := by
  obtain ⟨h1, h2, h3⟩ := h
  refine ⟨⟨rfl, h2, fun hp => ?_⟩, hc⟩
  obtain ⟨ad, rfl, h4⟩ := h3 hp
  refine ⟨ad, rfl, fun j p hj => ⟨[Value.int k p], rfl, rfl, fun i u hu => ?_⟩⟩
  have hi0 : i = 0 := by
    rcases i with _ | i
    · rfl
    · simp at hu
  subst hi0
  simp at hu
  subst hu
  have hjl : j < xs.length := (List.getElem?_eq_some_iff.1 hj).1
  have h5 := h4 j hjl
  have e : xs.getD j 0 = p := by rw [List.getD_eq_getElem?_getD, hj]; rfl
  rw [e] at h5
  show w.cell? (ad.add (j * 1 + 0)) = _
  rw [show j * 1 + 0 = j by omega]
  exact h5
/-- How many numbers of n bytes there are. -/
def lim (n : Int) : Int := if n = 1 then 256 else if n = 2 then 65536 else if n = 4 then 4294967296 else 0
def putE (n v : Int) : Int := if lim n = 0 then 8 else if v < 0 ∨ lim n ≤ v then 7 else 0
def putB (n v : Int) : List Int := if n = 1 then [v % 256] else if n = 2 then [v / 256 % 256, v % 256] else [v / 16777216 % 256, v / 65536 % 256, v / 256 % 256, v % 256]
def WF (xs : List Int) : Prop := ∀ x ∈ xs, 0 ≤ x ∧ x < 256
def sumB (xs : List Int) : Int := xs.sum % 65536
def valB (xs : List Int) : Int := xs.foldl (fun a c => 256 * a + c) 0
theorem byte_wf {x : Int} (h : (Lit.int .u8 x).wf = true) : 0 ≤ x ∧ x < 256 := by
  simp [Lit.wf, IntKind.min, IntKind.max, IntKind.bits, IntKind.signed] at h
  omega
theorem wf_of {xs : List Int} (h : ∀ x ∈ xs, (Lit.int .u8 x).wf = true) : WF xs := fun x hx => byte_wf (h x hx)
theorem WF.nil : WF [] := fun _ h => by simp at h
theorem WF.app {xs ys : List Int} (h : WF xs) (k : WF ys) : WF (xs ++ ys) := fun x hx => by
  rcases List.mem_append.1 hx with hx | hx
  · exact h x hx
  · exact k x hx
theorem WF.take {xs : List Int} (h : WF xs) (n : Nat) : WF (xs.take n) := fun x hx => h x (List.mem_of_mem_take hx)
theorem WF.drop {xs : List Int} (h : WF xs) (n : Nat) : WF (xs.drop n) := fun x hx => h x (List.mem_of_mem_drop hx)
theorem WF.putB (n v : Int) : WF (putB n v) := fun x hx => by
  unfold Wi.putB at hx
  split at hx
  · simp at hx; omega
  · split at hx
    · simp at hx; omega
    · simp at hx; omega
theorem wf_rd {xs : List Int} (h : WF xs) {i : Nat} (hi : i < xs.length) : 0 ≤ rd xs i ∧ rd xs i < 256 := by
  have : rd xs (i : Int) = xs[i] := by unfold rd; simp [hi]
  rw [this]
  exact h _ (List.getElem_mem hi)
theorem sum_bound {xs : List Int} (h : WF xs) : 0 ≤ xs.sum ∧ xs.sum ≤ 255 * xs.length := by
  induction xs with
  | nil => simp
  | cons x xs ih =>
    have h1 := h x (by simp)
    have h2 := ih (fun y hy => h y (by simp [hy]))
    simp only [List.sum_cons, List.length_cons]
    omega
theorem take_succ_rd {xs : List Int} {i : Nat} (hi : i < xs.length) : xs.take (i + 1) = xs.take i ++ [rd xs i] := by
  have : rd xs (i : Int) = xs[i] := by unfold rd; simp [hi]
  rw [this, List.take_add_one, List.getElem?_eq_getElem hi]
  rfl
theorem sum_snoc (xs : List Int) (x : Int) : (xs ++ [x]).sum = xs.sum + x := by simp
theorem val_snoc (xs : List Int) (x : Int) : valB (xs ++ [x]) = 256 * valB xs + x := by unfold valB; simp
theorem sumB_bound (xs : List Int) : 0 ≤ sumB xs ∧ sumB xs < 65536 := by unfold sumB; omega
theorem lim_of {n : Int} (h : lim n ≠ 0) : n = 1 ∨ n = 2 ∨ n = 4 := by
  unfold lim at h
  split at h
  · omega
  · split at h
    · omega
    · split at h
      · omega
      · exact absurd rfl h
theorem lim_not {n : Int} (h : lim n = 0) : n ≠ 1 ∧ n ≠ 2 ∧ n ≠ 4 := by
  unfold lim at h
  split at h
  · omega
  · split at h
    · omega
    · split at h
      · omega
      · omega
/-- What is left for a reader, and its error. -/
structure Rd where
  b : List Int
  e : Int
def next (r : Rd) (n : Int) : Rd := if r.e ≠ 0 then r else if lim n = 0 then ⟨[], 8⟩ else if (r.b.length : Int) < n then ⟨[], 9⟩ else ⟨r.b.drop n.toNat, 0⟩
def nextV (r : Rd) (n : Int) : Int := if r.e ≠ 0 then 0 else if lim n = 0 then 0 else if (r.b.length : Int) < n then 0 else valB (r.b.take n.toNat)
def endE (r : Rd) : Int := if r.e = 0 ∧ 0 < r.b.length then 8 else r.e
theorem val_bound {xs : List Int} (h : WF xs) (hl : xs.length ≤ 4) : 0 ≤ valB xs ∧ valB xs < 4294967296 := by
  rcases xs with _ | ⟨a, _ | ⟨b, _ | ⟨c, _ | ⟨d, _ | ⟨e, t⟩⟩⟩⟩⟩
  · simp [valB]
  · have := h a (by simp); simp [valB]; omega
  · have := h a (by simp); have := h b (by simp); simp [valB]; omega
  · have := h a (by simp); have := h b (by simp); have := h c (by simp); simp [valB]; omega
  · have := h a (by simp); have := h b (by simp); have := h c (by simp); have := h d (by simp); simp [valB]; omega
  · simp at hl
end Go.Proofs.YtdebbanloopcgaaDoor.Wi

/- Layer 3 (wire): slices.Clone, few, is, most, sums. -/
set_option linter.unusedVariables false
set_option linter.unusedSimpArgs false
namespace Go.Proofs.YtdebbanloopcgaaDoor.Wi
open Go.RowKit Go.Proofs.YtdebbanloopcgaaDoorW.PrintWords Go.Proofs.YtdebbanloopcgaaDoorW.PrintLast Go.Proofs.YtdebbanloopcgaaDoorW.PrintMore
attribute [local go_sem] max2_int min2_int max_two min_two max_three min_three max_four min_four
theorem info8 : (Tryd.prog.info? 5).map (fun i => (i.zero, i.size, i.bytes)) = some (some (.int .u8 0), 1, 1) := by kernel_rfl
theorem info64 : (Tryd.prog.info? 3).map (fun i => (i.zero, i.size, i.bytes)) = some (some (.int .i64 0), 1, 8) := by kernel_rfl
theorem eqnil8 (w : World) (a : Option Addr) (n c : Nat) : (binOp .eql 29 (.slice a n c) (.slice none 0 0)).run Tryd.prog w = .ok (.bool a.isNone) w := Lib.run_eql_slice_nil w _ _ a n c 0 0 Tryd.underlying29
attribute [local go_sem] eqnil8 Option.isNone_some Option.isNone_none
theorem clone_any {A : Option Addr} {c : Nat} {xs : List Int} {w : World} (h : CI .u8 w A c xs) (hl : xs.length ≤ 1000) :
    Calls Tryd.prog 54 #[.slice A xs.length c] w fun e w' => ∃ v, e = .returned v ∧ OI .u8 5 w w' v xs := by
  have H := Aside0.mk h
  have HL := Aside0.mk hl
  rcases A with _ | ad
  · have hz : xs = [] := by
      rcases xs with _ | ⟨x, t⟩
      · rfl
      · obtain ⟨ad, e, _⟩ := h.at_ (i := 0) (by simp)
        cases e
    subst hz
    clear h hl
    go_enter Tryd.func54, Tryd.ntmps54
    go_wp2
    go_ret
    exact ⟨_, rfl, OI.nil _ _ (Below.refl _ _)⟩
  · clear h hl
    go_enter Tryd.func54, Tryd.ntmps54
    go_wp2_with (first | ((with_reducible refine gate_dst (N := 5) rfl ?_); refine lit_ints (k := .u8) (e := 5) ?hg (N := 5) ?hd [] #[] ?hr ?hi ?hm ?_; (case hd => rfl); (case hg => rfl); (case hr => first | (go_simp; done) | (go_simp; rfl)); (case hi => rfl); (case hm => simp); intro B w1 _ hB) | ((with_reducible refine gate_builtin (b := .append) (xs := #[.tmp 5, .tmp 6]) rfl ?_); at_builtin; refine app_ints (k := .u8) (w0 := w) rfl (.tmp 5) (.tmp 6) 29 1 rfl Tryd.underlying29 info8 (by decide) (by decide) _ [] xs _ _ _ rfl rfl rfl ?aO ?aR ?aL ?_; (case aL => have := HL.out; simp; omega); (case aR => exact H.out.below hB.bel); (case aO => exact hB); intro v w2 ho hg hat))
    go_ret
    exact ⟨_, rfl, by simpa using ho⟩
theorem is_any (n : Int) (w : World) : Calls Tryd.prog 53 #[.int .i64 n] w fun e w' => e = .returned (.bool (lim n != 0)) ∧ w = w' := by
  by_cases h1 : n = 1
  · subst h1
    go_enter Tryd.func53, Tryd.ntmps53
    go_wp2
    go_ret
    exact ⟨rfl, rfl⟩
  · by_cases h2 : n = 2
    · subst h2
      go_enter Tryd.func53, Tryd.ntmps53
      go_wp2
      go_ret
      exact ⟨rfl, rfl⟩
    · have e1 : (n == 1) = false := beq_eq_false_iff_ne.mpr h1
      have e2 : (n == 2) = false := beq_eq_false_iff_ne.mpr h2
      have e3 : (lim n != 0) = (n == 4) := by
        unfold lim
        rw [if_neg h1, if_neg h2]
        by_cases h4 : n = 4
        · subst h4; rfl
        · rw [if_neg h4]
          simp [h4]
      rw [e3]
      clear h1 h2 e3
      go_enter Tryd.func53, Tryd.ntmps53
      go_wp2
      go_ret
      exact ⟨rfl, rfl⟩
theorem most_any (n : Int) (w : World) : Calls Tryd.prog 58 #[.int .i64 n] w fun e w' => e = .returned (.int .i64 (lim n)) ∧ w = w' := by
  by_cases h1 : n = 1
  · subst h1
    go_enter Tryd.func58, Tryd.ntmps58
    go_wp2
    go_ret
    exact ⟨rfl, rfl⟩
  · by_cases h2 : n = 2
    · subst h2
      go_enter Tryd.func58, Tryd.ntmps58
      go_wp2
      go_ret
      exact ⟨rfl, rfl⟩
    · by_cases h4 : n = 4
      · subst h4
        go_enter Tryd.func58, Tryd.ntmps58
        go_wp2
        go_ret
        exact ⟨rfl, rfl⟩
      · have e1 : (n == 1) = false := beq_eq_false_iff_ne.mpr h1
        have e2 : (n == 2) = false := beq_eq_false_iff_ne.mpr h2
        have e4 : (n == 4) = false := beq_eq_false_iff_ne.mpr h4
        have e : lim n = 0 := by unfold lim; rw [if_neg h1, if_neg h2, if_neg h4]
        rw [e]
        clear h1 h2 h4 e
        go_enter Tryd.func58, Tryd.ntmps58
        go_wp2
        go_ret
        exact ⟨rfl, rfl⟩
theorem w64 {x : Int} (h : -9223372036854775808 ≤ x) (h' : x < 9223372036854775808) : wrap64 x = x := by unfold wrap64; omega
theorem sum_any {A : Option Addr} {c : Nat} {xs : List Int} {w : World} (h : CI .u8 w A c xs) (hf : WF xs) (hl : xs.length ≤ 1000) :
    Calls Tryd.prog 55 #[.slice A xs.length c] w fun e w' => e = .returned (.int .i64 (sumB xs)) ∧ w = w' := by
  have H := Aside0.mk h
  have HF := Aside0.mk hf
  have HS := Aside0.mk (sum_bound hf)
  clear h hf
  go_enter Tryd.func55, Tryd.ntmps55
  go_wp2
  go_loopw [3, 8] (fun v3 v8 wr => ∃ k : Nat, k ≤ xs.length ∧ v3 = .int .i64 (xs.take k).sum ∧ v8 = .int .i64 k ∧ Aside0 (w = wr)) (fun _ v8 _ => xs.length - (intOf v8).toNat)
  case atStart => exact ⟨0, by omega, rfl, rfl, ⟨rfl⟩⟩
  case round =>
    obtain ⟨k, hk, rfl, rfl, HWW⟩ := hrel
    obtain rfl := HWW.out
    clear HWW
    have hb := sum_bound (HF.out.take k)
    have hlk : (xs.take k).length = k := by rw [List.length_take]; omega
    rw [hlk] at hb
    by_cases hlt : k < xs.length
    · obtain ⟨ad, rfl, hcell⟩ := H.out.at_ hlt
      have hr := wf_rd HF.out hlt
      have hs : (xs.take (k + 1)).sum = (xs.take k).sum + rd xs k := by rw [take_succ_rd hlt, sum_snoc]
      have HT := Aside0.mk hs
      clear hs
      generalize rd xs k = x at hcell hr HT
      generalize (xs.take k).sum = s at hb HT
      have e1 : wrap64 x = x := w64 (by omega) (by omega)
      have e2 : wrap64 (s + x) = s + x := w64 (by omega) (by omega)
      have hk0 : 0 ≤ (k : Int) := by omega
      have hk1 : (k : Int) < xs.length := by omega
      go_wp2
      go_roundw
      case rel => exact ⟨k + 1, by omega, by rw [HT.out], by go_num, ⟨by first | rfl | trivial⟩⟩
      case measure => simp [intOf]; omega
    · have hk' : xs.take k = xs := List.take_of_length_le (by omega)
      have hd : decide ((k : Int) < (xs.length : Int)) = false := decide_eq_false (by omega)
      rw [hk']
      clear hk'
      have e : sumB xs = Int.tmod (xs.sum) 65536 := by
        unfold sumB
        have := HS.out
        rw [Int.tmod_eq_emod_of_nonneg (by omega)]
      clear hb hlk
      have E := Aside0.mk e
      clear e
      generalize xs.sum = s at E
      go_wp2
      go_ret
      exact ⟨by rw [E.out]; rfl, rfl⟩
theorem rSum_any {A : Option Addr} {c : Nat} {xs : List Int} {w : World} (h : CI .u8 w A c xs) (hf : WF xs) (hl : xs.length ≤ 1000) :
    Calls Tryd.prog 38 #[.slice A xs.length c] w fun e w' => e = .returned (.int .i64 (sumB xs)) ∧ w = w' := by
  have H := Aside0.mk h
  have HF := Aside0.mk hf
  clear h hf
  go_enter Tryd.func38, Tryd.ntmps38
  go_wp2
  go_loopw [3, 4] (fun v3 v8 wr => ∃ k : Nat, k ≤ xs.length ∧ v3 = .int .i64 (sumB (xs.take k)) ∧ v8 = .int .i64 k ∧ Aside0 (w = wr)) (fun _ v8 _ => xs.length - (intOf v8).toNat)
  case atStart => exact ⟨0, by omega, rfl, rfl, ⟨rfl⟩⟩
  case round =>
    obtain ⟨k, hk, rfl, rfl, HWW⟩ := hrel
    obtain rfl := HWW.out
    clear HWW
    have hb := sumB_bound (xs.take k)
    by_cases hlt : k < xs.length
    · obtain ⟨ad, rfl, hcell⟩ := H.out.at_ hlt
      have hr := wf_rd HF.out hlt
      have hs : sumB (xs.take (k + 1)) = (sumB (xs.take k) + rd xs k) % 65536 := by
        unfold sumB
        rw [take_succ_rd hlt, sum_snoc]
        omega
      have HT := Aside0.mk hs
      clear hs
      generalize rd xs k = x at hcell hr HT
      generalize sumB (xs.take k) = s at hb HT
      have e1 : wrap64 x = x := w64 (by omega) (by omega)
      have e2 : wrap64 (s + x) = s + x := w64 (by omega) (by omega)
      have e3 : Int.tmod (s + x) 65536 = (s + x) % 65536 := Int.tmod_eq_emod_of_nonneg (by omega)
      have hk0 : 0 ≤ (k : Int) := by omega
      have hk1 : (k : Int) < xs.length := by omega
      go_wp2
      go_roundw
      case rel => exact ⟨k + 1, by omega, by rw [HT.out, ← e3], by go_num, ⟨by first | rfl | trivial⟩⟩
      case measure => simp [intOf]; omega
    · have hk' : xs.take k = xs := List.take_of_length_le (by omega)
      have hd : decide ((k : Int) < (xs.length : Int)) = false := decide_eq_false (by omega)
      rw [hk']
      clear hk'
      clear hb
      go_wp2
      go_ret
      exact ⟨rfl, rfl⟩
end Go.Proofs.YtdebbanloopcgaaDoor.Wi

/- Layer 3 (wire): Put, of the program. -/
set_option linter.unusedVariables false
set_option linter.unusedSimpArgs false
namespace Go.Proofs.YtdebbanloopcgaaDoor.Wi
open Go.RowKit Go.Proofs.YtdebbanloopcgaaDoorW.PrintWords Go.Proofs.YtdebbanloopcgaaDoorW.PrintLast Go.Proofs.YtdebbanloopcgaaDoorW.PrintMore
attribute [local go_sem] max2_int min2_int max_two min_two max_three min_three max_four min_four
theorem put_bad {n v : Int} (h : putE n v ≠ 0) (A : Option Addr) (m c : Nat) (w : World) :
    Calls Tryd.prog 24 #[.slice A m c, .int .i64 n, .int .i64 v] w fun e w' => e = .returned (.tuple #[.slice A m c, .int .i64 (putE n v)]) ∧ w = w' := by
  by_cases hl : lim n = 0
  · have e : putE n v = 8 := by unfold putE; rw [if_pos hl]
    have hb : (lim n != 0) = false := by rw [hl]; rfl
    rw [e]
    clear h hl e
    go_enter Tryd.func24, Tryd.ntmps24
    go_wp2_with (first | (go_at_call 53; refine (is_any _ _).mono ?_; rintro e w' ⟨rfl, rfl⟩; rw [hb]))
    go_ret2
    exact ⟨rfl, rfl⟩
  · have hv : v < 0 ∨ lim n ≤ v := by
      unfold putE at h
      rw [if_neg hl] at h
      split at h
      · assumption
      · exact absurd rfl h
    have e : putE n v = 7 := by
      unfold putE
      rw [if_neg hl, if_pos hv]
    have hb : (lim n != 0) = true := bne_iff_ne.mpr hl
    rw [e]
    clear h e
    by_cases hv0 : v < 0
    · have hd : decide (v < 0) = true := decide_eq_true hv0
      clear hv hv0
      go_enter Tryd.func24, Tryd.ntmps24
      go_wp2_with (first | (go_at_call 53; refine (is_any _ _).mono ?_; rintro e w' ⟨rfl, rfl⟩; rw [hb]))
      go_ret2
      exact ⟨rfl, rfl⟩
    · have hd : decide (v < 0) = false := decide_eq_false hv0
      have hv1 : lim n ≤ v := by omega
      clear hv
      rcases lim_of hl with rfl | rfl | rfl
      · have hv2 : (256 : Int) ≤ v := hv1
        have hd2 : decide (0 < v / 256) = true := decide_eq_true (by omega)
        clear hv1 hl hv0 hv2
        go_enter Tryd.func24, Tryd.ntmps24
        go_wp2_with (first | (go_at_call 53; refine (is_any _ _).mono ?_; rintro e w' ⟨rfl, rfl⟩; rw [hb]))
        go_ret2
        exact ⟨rfl, rfl⟩
      · have hv2 : (65536 : Int) ≤ v := hv1
        have hd2 : decide (0 < v / 65536) = true := decide_eq_true (by omega)
        clear hv1 hl hv0 hv2
        go_enter Tryd.func24, Tryd.ntmps24
        go_wp2_with (first | (go_at_call 53; refine (is_any _ _).mono ?_; rintro e w' ⟨rfl, rfl⟩; rw [hb]))
        go_ret2
        exact ⟨rfl, rfl⟩
      · have hv2 : (4294967296 : Int) ≤ v := hv1
        have hd2 : decide (0 < v / 4294967296) = true := decide_eq_true (by omega)
        clear hv1 hl hv0 hv2
        go_enter Tryd.func24, Tryd.ntmps24
        go_wp2_with (first | (go_at_call 53; refine (is_any _ _).mono ?_; rintro e w' ⟨rfl, rfl⟩; rw [hb]))
        go_ret2
        exact ⟨rfl, rfl⟩
theorem wrap8 (x : Int) : IntKind.u8.wrap x = x % 256 := by simp [IntKind.wrap, IntKind.bits, IntKind.signed]
theorem put_ok1 {v : Int} (h0 : 0 ≤ v) (h1 : v < 256) {A : Option Addr} {c : Nat} {xs : List Int} {w : World} (h : CI .u8 w A c xs) (hl : xs.length ≤ 900) :
    Calls Tryd.prog 24 #[.slice A xs.length c, .int .i64 1, .int .i64 v] w fun e w' => ∃ r, e = .returned (.tuple #[r, .int .i64 0]) ∧ OI .u8 5 w w' r (xs ++ putB 1 v) := by
  have H := Aside0.mk h
  have HL := Aside0.mk hl
  have hb : (lim 1 != 0) = true := rfl
  have hd : decide (v < 0) = false := decide_eq_false (by omega)
  have hd2 : decide (0 < v / 256) = false := decide_eq_false (by omega)
  clear h hl h0 h1
  go_enter Tryd.func24, Tryd.ntmps24
  go_wp2_with (first | (go_at_call 53; refine (is_any _ _).mono ?_; rintro e w' ⟨rfl, rfl⟩; rw [hb]) | (go_at_call 54; refine (clone_any H.out (Nat.le_trans HL.out (by decide))).mono ?_; rintro e w' ⟨v0, rfl, ho⟩; have HO := Aside0.mk ho; clear ho) | ((with_reducible refine gate_dst (N := 50) rfl ?_); refine lit_ints (k := .u8) (e := 5) ?hg (N := 50) ?hd [v % 256] #[.int .u8 (v % 256)] ?hr ?hi ?hm ?_; (case hd => rfl); (case hg => rfl); (case hr => first | (go_simp; done) | (go_simp; rfl)); (case hi => rfl); (case hm => simp); intro B w1 hC hB_; have hl_ := hB_.bel; clear hB_) | ((with_reducible refine gate_builtin (b := .append) (xs := #[.tmp 47, .tmp 50]) rfl ?_); at_builtin; refine app_ints (k := .u8) (w0 := w) rfl (.tmp 47) (.tmp 50) 29 1 rfl Tryd.underlying29 info8 (by decide) (by decide) _ xs [v % 256] _ _ _ rfl rfl rfl ?aO ?aR ?aL ?_; (case aL => have := HL.out; simp; omega); (case aR => exact hC); (case aO => exact HO.out.far hl_); intro v2 w2 ho hg hat; clear HO; have HO := Aside0.mk ho; clear ho hl_ hC hg hat))
  go_ret2
  exact ⟨_, rfl, by simpa [putB] using HO.out⟩
theorem put_ok2 {v : Int} (h0 : 0 ≤ v) (h1 : v < 65536) {A : Option Addr} {c : Nat} {xs : List Int} {w : World} (h : CI .u8 w A c xs) (hl : xs.length ≤ 900) :
    Calls Tryd.prog 24 #[.slice A xs.length c, .int .i64 2, .int .i64 v] w fun e w' => ∃ r, e = .returned (.tuple #[r, .int .i64 0]) ∧ OI .u8 5 w w' r (xs ++ putB 2 v) := by
  have H := Aside0.mk h
  have HL := Aside0.mk hl
  have hb : (lim 2 != 0) = true := rfl
  have hd : decide (v < 0) = false := decide_eq_false (by omega)
  have hd2 : decide (0 < v / 65536) = false := decide_eq_false (by omega)
  clear h hl h0 h1
  go_enter Tryd.func24, Tryd.ntmps24
  go_wp2_with (first | (go_at_call 53; refine (is_any _ _).mono ?_; rintro e w' ⟨rfl, rfl⟩; rw [hb]) | (go_at_call 54; refine (clone_any H.out (Nat.le_trans HL.out (by decide))).mono ?_; rintro e w' ⟨v0, rfl, ho⟩; have HO := Aside0.mk ho; clear ho) | ((with_reducible refine gate_dst (N := 45) rfl ?_); refine lit_ints (k := .u8) (e := 5) ?hg (N := 45) ?hd [v / 256 % 256] #[.int .u8 (v / 256 % 256)] ?hr ?hi ?hm ?_; (case hd => rfl); (case hg => rfl); (case hr => first | (go_simp; done) | (go_simp; rfl)); (case hi => rfl); (case hm => simp); intro B w1 hC hB_; have hl_ := hB_.bel; clear hB_) | ((with_reducible refine gate_builtin (b := .append) (xs := #[.tmp 41, .tmp 45]) rfl ?_); at_builtin; refine app_ints (k := .u8) (w0 := w) rfl (.tmp 41) (.tmp 45) 29 1 rfl Tryd.underlying29 info8 (by decide) (by decide) _ xs [v / 256 % 256] _ _ _ rfl rfl rfl ?aO ?aR ?aL ?_; (case aL => have := HL.out; simp; omega); (case aR => exact hC); (case aO => exact HO.out.far hl_); intro v2 w2 ho hg hat; clear HO; have HO := Aside0.mk ho; clear ho hl_ hC hg hat) | ((with_reducible refine gate_dst (N := 50) rfl ?_); refine lit_ints (k := .u8) (e := 5) ?hg (N := 50) ?hd [v % 256] #[.int .u8 (v % 256)] ?hr ?hi ?hm ?_; (case hd => rfl); (case hg => rfl); (case hr => first | (go_simp; done) | (go_simp; rfl)); (case hi => rfl); (case hm => simp); intro B w1 hC hB_; have hl_ := hB_.bel; clear hB_) | ((with_reducible refine gate_builtin (b := .append) (xs := #[.tmp 47, .tmp 50]) rfl ?_); at_builtin; refine app_ints (k := .u8) (w0 := w) rfl (.tmp 47) (.tmp 50) 29 1 rfl Tryd.underlying29 info8 (by decide) (by decide) _ (xs ++ [v / 256 % 256]) [v % 256] _ _ _ rfl rfl rfl ?aO ?aR ?aL ?_; (case aL => have := HL.out; simp; omega); (case aR => exact hC); (case aO => exact HO.out.far hl_); intro v2 w2 ho hg hat; clear HO; have HO := Aside0.mk ho; clear ho hl_ hC hg hat))
  go_ret2
  exact ⟨_, rfl, by simpa [putB] using HO.out⟩
theorem put_ok4 {v : Int} (h0 : 0 ≤ v) (h1 : v < 4294967296) {A : Option Addr} {c : Nat} {xs : List Int} {w : World} (h : CI .u8 w A c xs) (hl : xs.length ≤ 900) :
    Calls Tryd.prog 24 #[.slice A xs.length c, .int .i64 4, .int .i64 v] w fun e w' => ∃ r, e = .returned (.tuple #[r, .int .i64 0]) ∧ OI .u8 5 w w' r (xs ++ putB 4 v) := by
  have H := Aside0.mk h
  have HL := Aside0.mk hl
  have hb : (lim 4 != 0) = true := rfl
  have hd : decide (v < 0) = false := decide_eq_false (by omega)
  have hd2 : decide (0 < v / 4294967296) = false := decide_eq_false (by omega)
  clear h hl h0 h1
  go_enter Tryd.func24, Tryd.ntmps24
  go_wp2_with (first | (go_at_call 53; refine (is_any _ _).mono ?_; rintro e w' ⟨rfl, rfl⟩; rw [hb]) | (go_at_call 54; refine (clone_any H.out (Nat.le_trans HL.out (by decide))).mono ?_; rintro e w' ⟨v0, rfl, ho⟩; have HO := Aside0.mk ho; clear ho) | ((with_reducible refine gate_dst (N := 39) rfl ?_); refine lit_ints (k := .u8) (e := 5) ?hg (N := 39) ?hd [v / 16777216 % 256, v / 65536 % 256] #[.int .u8 (v / 16777216 % 256), .int .u8 (v / 65536 % 256)] ?hr ?hi ?hm ?_; (case hd => rfl); (case hg => rfl); (case hr => first | (go_simp; done) | (go_simp; rfl)); (case hi => rfl); (case hm => simp); intro B w1 hC hB_; have hl_ := hB_.bel; clear hB_) | ((with_reducible refine gate_builtin (b := .append) (xs := #[.tmp 32, .tmp 39]) rfl ?_); at_builtin; refine app_ints (k := .u8) (w0 := w) rfl (.tmp 32) (.tmp 39) 29 1 rfl Tryd.underlying29 info8 (by decide) (by decide) _ xs [v / 16777216 % 256, v / 65536 % 256] _ _ _ rfl rfl rfl ?aO ?aR ?aL ?_; (case aL => have := HL.out; simp; omega); (case aR => exact hC); (case aO => exact HO.out.far hl_); intro v2 w2 ho hg hat; clear HO; have HO := Aside0.mk ho; clear ho hl_ hC hg hat) | ((with_reducible refine gate_dst (N := 45) rfl ?_); refine lit_ints (k := .u8) (e := 5) ?hg (N := 45) ?hd [v / 256 % 256] #[.int .u8 (v / 256 % 256)] ?hr ?hi ?hm ?_; (case hd => rfl); (case hg => rfl); (case hr => first | (go_simp; done) | (go_simp; rfl)); (case hi => rfl); (case hm => simp); intro B w1 hC hB_; have hl_ := hB_.bel; clear hB_) | ((with_reducible refine gate_builtin (b := .append) (xs := #[.tmp 41, .tmp 45]) rfl ?_); at_builtin; refine app_ints (k := .u8) (w0 := w) rfl (.tmp 41) (.tmp 45) 29 1 rfl Tryd.underlying29 info8 (by decide) (by decide) _ (xs ++ [v / 16777216 % 256, v / 65536 % 256]) [v / 256 % 256] _ _ _ rfl rfl rfl ?aO ?aR ?aL ?_; (case aL => have := HL.out; simp; omega); (case aR => exact hC); (case aO => exact HO.out.far hl_); intro v2 w2 ho hg hat; clear HO; have HO := Aside0.mk ho; clear ho hl_ hC hg hat) | ((with_reducible refine gate_dst (N := 50) rfl ?_); refine lit_ints (k := .u8) (e := 5) ?hg (N := 50) ?hd [v % 256] #[.int .u8 (v % 256)] ?hr ?hi ?hm ?_; (case hd => rfl); (case hg => rfl); (case hr => first | (go_simp; done) | (go_simp; rfl)); (case hi => rfl); (case hm => simp); intro B w1 hC hB_; have hl_ := hB_.bel; clear hB_) | ((with_reducible refine gate_builtin (b := .append) (xs := #[.tmp 47, .tmp 50]) rfl ?_); at_builtin; refine app_ints (k := .u8) (w0 := w) rfl (.tmp 47) (.tmp 50) 29 1 rfl Tryd.underlying29 info8 (by decide) (by decide) _ ((xs ++ [v / 16777216 % 256, v / 65536 % 256]) ++ [v / 256 % 256]) [v % 256] _ _ _ rfl rfl rfl ?aO ?aR ?aL ?_; (case aL => have := HL.out; simp; omega); (case aR => exact hC); (case aO => exact HO.out.far hl_); intro v2 w2 ho hg hat; clear HO; have HO := Aside0.mk ho; clear ho hl_ hC hg hat))
  go_ret2
  exact ⟨_, rfl, by simpa [putB] using HO.out⟩
theorem putE_ok {n v : Int} (h : putE n v = 0) : (n = 1 ∧ 0 ≤ v ∧ v < 256) ∨ (n = 2 ∧ 0 ≤ v ∧ v < 65536) ∨ (n = 4 ∧ 0 ≤ v ∧ v < 4294967296) := by
  unfold putE at h
  split at h
  · exact absurd h (by decide)
  · rename_i hl
    split at h
    · exact absurd h (by decide)
    · rename_i hv
      rcases lim_of hl with rfl | rfl | rfl
      · have e : lim 1 = 256 := rfl
        rw [e] at hv
        exact .inl ⟨rfl, by omega, by omega⟩
      · have e : lim 2 = 65536 := rfl
        rw [e] at hv
        exact .inr (.inl ⟨rfl, by omega, by omega⟩)
      · have e : lim 4 = 4294967296 := rfl
        rw [e] at hv
        exact .inr (.inr ⟨rfl, by omega, by omega⟩)
theorem put_ok {n v : Int} (h : putE n v = 0) {A : Option Addr} {c : Nat} {xs : List Int} {w : World} (hc : CI .u8 w A c xs) (hl : xs.length ≤ 900) :
    Calls Tryd.prog 24 #[.slice A xs.length c, .int .i64 n, .int .i64 v] w fun e w' => ∃ r, e = .returned (.tuple #[r, .int .i64 0]) ∧ OI .u8 5 w w' r (xs ++ putB n v) := by
  rcases putE_ok h with ⟨rfl, h0, h1⟩ | ⟨rfl, h0, h1⟩ | ⟨rfl, h0, h1⟩
  · exact put_ok1 h0 h1 hc hl
  · exact put_ok2 h0 h1 hc hl
  · exact put_ok4 h0 h1 hc hl
end Go.Proofs.YtdebbanloopcgaaDoor.Wi

/- Layer 3 (wire): the document's Put and Seal; Seal of the program. -/
set_option linter.unusedVariables false
set_option linter.unusedSimpArgs false
namespace Go.Proofs.YtdebbanloopcgaaDoor.Wi
open Go.RowKit Go.Proofs.YtdebbanloopcgaaDoorW.PrintWords Go.Proofs.YtdebbanloopcgaaDoorW.PrintLast Go.Proofs.YtdebbanloopcgaaDoorW.PrintMore
attribute [local go_sem] max2_int min2_int max_two min_two max_three min_three max_four min_four
theorem OI.past {k k' : IntKind} {e e' : TypeId} {w0 W W1 W2 : World} {v B : Value} {xs ys : List Int} (h : OI k e w0 W v xs) (hB : OI k' e' W W1 B ys) (hg : W1.grownBy W2 B.ownBlock) : OI k e w0 W2 v xs := by
  refine (h.far hB.bel).grown hg (fun b hb => Nat.le_trans h.bel.size (hB.typed b hb).1) (fun b hb e => ?_)
  obtain ⟨_, cells, hc⟩ := h.typed b e
  have h1 := (hB.typed b hb).1
  have h2 := blk_lt hc
  omega
/-- The last k bytes of v, the greatest first. -/
def lowB : Nat → Int → List Int
  | 0, _ => []
  | k + 1, v => (v / 256 ^ k) % 256 :: lowB k v
theorem lowB_len : ∀ k v, (lowB k v).length = k
  | 0, _ => rfl
  | k + 1, v => by simp [lowB, lowB_len k v]
theorem lowB1 (v : Int) : lowB 1 v = putB 1 v := by simp [lowB, putB]
theorem lowB2 (v : Int) : lowB 2 v = putB 2 v := by simp [lowB, putB]
theorem lowB4 (v : Int) : lowB 4 v = putB 4 v := by simp [lowB, putB]
theorem pow_step (v : Int) (k : Nat) : v / 256 ^ k / 256 = v / 256 ^ (k + 1) := by
  rw [Int.pow_succ, Int.ediv_ediv_of_nonneg (by exact Int.pow_nonneg (by decide))]
theorem rPut_bad {n v : Int} (h : putE n v ≠ 0) (A : Option Addr) (m c : Nat) (w : World) :
    Calls Tryd.prog 37 #[.slice A m c, .int .i64 n, .int .i64 v] w fun e w' => e = .returned (.tuple #[.slice A m c, .int .i64 (putE n v)]) ∧ w = w' := by
  have M : ∀ w, Calls Tryd.prog 58 #[.int .i64 n] w fun e w' => e = .returned (.int .i64 (lim n)) ∧ w = w' := most_any n
  by_cases hl : lim n = 0
  · have e : putE n v = 8 := by unfold putE; rw [if_pos hl]
    rw [hl] at M
    have M := Aside0.mk M
    rw [e]
    clear h hl e
    go_enter Tryd.func37, Tryd.ntmps37
    go_wp2_with (first | (go_at_call 58; refine (M.out _).mono ?_; rintro e w' ⟨rfl, rfl⟩))
    go_ret2
    exact ⟨rfl, rfl⟩
  · have hv : v < 0 ∨ lim n ≤ v := by
      unfold putE at h
      rw [if_neg hl] at h
      split at h
      · assumption
      · exact absurd rfl h
    have e : putE n v = 7 := by
      unfold putE
      rw [if_neg hl, if_pos hv]
    have hb : (lim n == 0) = false := beq_eq_false_iff_ne.mpr hl
    rw [e]
    clear h e hl
    revert M hb hv
    generalize lim n = L
    intro M hv hb
    replace M := Aside0.mk M
    by_cases hv0 : v < 0
    · have hd : decide (v < 0) = true := decide_eq_true hv0
      clear hv hv0
      go_enter Tryd.func37, Tryd.ntmps37
      go_wp2_with (first | (go_at_call 58; refine (M.out _).mono ?_; rintro e w' ⟨rfl, rfl⟩))
      go_ret2
      exact ⟨rfl, rfl⟩
    · have hd : decide (v < 0) = false := decide_eq_false hv0
      have hv1 : L ≤ v := by omega
      have hd1 : decide (L ≤ v) = true := decide_eq_true hv1
      clear hv hv0 hv1
      go_enter Tryd.func37, Tryd.ntmps37
      go_wp2_with (first | (go_at_call 58; refine (M.out _).mono ?_; rintro e w' ⟨rfl, rfl⟩))
      go_ret2
      exact ⟨rfl, rfl⟩
theorem rPut_n {n : Nat} {L v : Int} (hL : lim n = L) (hn0 : L ≠ 0) (h0 : 0 ≤ v) (h1 : v < L) (hb4 : L ≤ 4294967296) (hn : n ≤ 4) {A : Option Addr} {c : Nat} {xs : List Int} {w : World} (h : CI .u8 w A c xs) (hl : xs.length ≤ 900) :
    Calls Tryd.prog 37 #[.slice A xs.length c, .int .i64 n, .int .i64 v] w fun e w' => ∃ r, e = .returned (.tuple #[r, .int .i64 0]) ∧ OI .u8 5 w w' r (xs ++ lowB n v) := by
  have H := Aside0.mk h
  have HL := Aside0.mk hl
  have M : ∀ w, Calls Tryd.prog 58 #[.int .i64 n] w fun e w' => e = .returned (.int .i64 L) ∧ w = w' := by rw [← hL]; exact most_any n
  have M := Aside0.mk M
  have hb : (L == 0) = false := beq_eq_false_iff_ne.mpr hn0
  have hd : decide (v < 0) = false := decide_eq_false (by omega)
  have hd1 : decide (L ≤ v) = false := decide_eq_false (by omega)
  have HV : Aside0 (0 ≤ v ∧ v < 4294967296) := ⟨h0, by omega⟩
  clear h hl h0 h1 hn0 hb4 hL
  go_enter Tryd.func37, Tryd.ntmps37
  go_wp2_with (first | (go_at_call 58; refine (M.out _).mono ?_; rintro e w' ⟨rfl, rfl⟩) | ((with_reducible refine gate_builtin (b := .append) (xs := #[.tmp 24, .tmp 25]) rfl ?_); at_builtin; refine app_ints (k := .u8) (w0 := w) rfl (.tmp 24) (.tmp 25) 29 1 rfl Tryd.underlying29 info8 (by decide) (by decide) _ [] xs _ _ _ rfl rfl rfl ?aO ?aR ?aL ?_; (case aL => have := HL.out; simp; omega); (case aR => exact H.out); (case aO => exact OI.nil _ _ (Below.refl _ _)); intro v2 w2 ho hg hat; clear hg hat; have HO := Aside0.mk ho; clear ho))
  rw [List.nil_append] at HO
  go_loopw [2, 9, 10] (fun x9 x10 x11 wr => ∃ (k : Nat) (r : Value), k ≤ n ∧ x9 = .int .i64 (v / 256 ^ k) ∧ x10 = r ∧ x11 = .int .i64 k ∧ Aside0 (OI .u8 5 w wr v2 xs ∧ OI .u8 5 w wr r (lowB k v))) (fun _ _ x11 _ => n - (intOf x11).toNat)
  case atStart => exact ⟨0, .slice none 0 0, by omega, by simp, rfl, rfl, ⟨HO.out, OI.nil _ _ HO.out.bel⟩⟩
  case round =>
    obtain ⟨k, r, hk, rfl, rfl, rfl, HH⟩ := hrel
    obtain ⟨B, cB, rfl, hCB⟩ := HH.out.2.reads
    have HC := Aside0.mk hCB
    clear hCB HO
    by_cases hlt : k < n
    · have hx0 : 0 ≤ v / 256 ^ k := Int.ediv_nonneg HV.out.1 (Int.pow_nonneg (by decide))
      have hx1 : v / 256 ^ k ≤ v := Int.ediv_le_self _ HV.out.1
      have hx2 := HV.out.2
      have hs := Aside0.mk (pow_step v k)
      have hl : Aside0 (lowB (k + 1) v = v / 256 ^ k % 256 :: lowB k v) := ⟨rfl⟩
      have hdk : decide ((k : Int) < (n : Int)) = true := decide_eq_true (by omega)
      generalize hx : v / 256 ^ k = x at hx0 hx1 hs hl
      have hlow := Aside0.mk (lowB_len k v)
      generalize lowB k v = low at hl HH HC hlow
      have e1 : Int.tmod x 256 = x % 256 := Int.tmod_eq_emod_of_nonneg hx0
      have e2 : Int.tdiv x 256 = x / 256 := Int.tdiv_eq_ediv_of_nonneg hx0
      have e3 : x % 256 % 256 = x % 256 := by omega
      have e4 : wrap64 (x / 256) = x / 256 := w64 (by omega) (by omega)
      clear hx0 hx1 hx2
      go_wp2_with (first | (rw [wrap8]) | ((with_reducible refine gate_dst (N := 35) rfl ?_); refine lit_ints (k := .u8) (e := 5) ?hg (N := 35) ?hd [x % 256] #[.int .u8 (x % 256)] ?hr ?hi ?hm ?_; (case hd => rfl); (case hg => rfl); (case hr => first | (go_simp; done) | (go_simp; rfl)); (case hi => rfl); (case hm => simp); intro D w1 hC hB_; have HD := Aside0.mk hB_; clear hB_ hC) | ((with_reducible refine gate_builtin (b := .append) (xs := #[.tmp 35, .tmp 36]) rfl ?_); at_builtin; refine app_ints (k := .u8) (w0 := w) rfl (.tmp 35) (.tmp 36) 29 1 rfl Tryd.underlying29 info8 (by decide) (by decide) _ [x % 256] low _ _ _ rfl rfl rfl ?aO ?aR ?aL ?_; (case aL => rw [hlow.out]; simp; omega); (case aR => exact HC.out.below HD.out.bel); (case aO => exact HD.out.less HH.out.1.bel); intro v3 w3 ho hg hat; have HO := Aside0.mk ho; have HP := Aside0.mk (HH.out.1.past HD.out hg); clear ho hg hat HH HC HD))
      go_roundw
      case rel => exact ⟨k + 1, _, by omega, by rw [← hs.out, e4], rfl, by go_num, ⟨HP.out, by rw [hl.out]; exact HO.out⟩⟩
      case measure => simp [intOf]; omega
    · have hdk : decide ((k : Int) < (n : Int)) = false := decide_eq_false (by omega)
      obtain rfl : k = n := by omega
      go_wp2_with (first | ((with_reducible refine gate_builtin (b := .append) (xs := #[.tmp 40, .tmp 41]) rfl ?_); at_builtin; refine app_ints (k := .u8) (w0 := w) rfl (.tmp 40) (.tmp 41) 29 1 rfl Tryd.underlying29 info8 (by decide) (by decide) _ xs (lowB k v) _ _ _ rfl rfl rfl ?aO ?aR ?aL ?_; (case aL => have := HL.out; rw [lowB_len]; omega); (case aR => exact HC.out); (case aO => exact HH.out.1); intro v3 w3 ho hg hat; clear hg hat; have HO := Aside0.mk ho; clear ho))
      go_ret2
      exact ⟨_, rfl, HO.out⟩
theorem rPut_ok {n v : Int} (h : putE n v = 0) {A : Option Addr} {c : Nat} {xs : List Int} {w : World} (hc : CI .u8 w A c xs) (hl : xs.length ≤ 900) :
    Calls Tryd.prog 37 #[.slice A xs.length c, .int .i64 n, .int .i64 v] w fun e w' => ∃ r, e = .returned (.tuple #[r, .int .i64 0]) ∧ OI .u8 5 w w' r (xs ++ putB n v) := by
  rcases putE_ok h with ⟨rfl, h0, h1⟩ | ⟨rfl, h0, h1⟩ | ⟨rfl, h0, h1⟩
  · have := rPut_n (n := 1) (L := 256) rfl (by decide) h0 h1 (by decide) (by decide) hc hl
    rw [lowB1] at this
    exact this
  · have := rPut_n (n := 2) (L := 65536) rfl (by decide) h0 h1 (by decide) (by decide) hc hl
    rw [lowB2] at this
    exact this
  · have := rPut_n (n := 4) (L := 4294967296) rfl (by decide) h0 h1 (by decide) (by decide) hc hl
    rw [lowB4] at this
    exact this
theorem putE_sum (xs : List Int) : putE 2 (sumB xs) = 0 := by
  have h := sumB_bound xs
  unfold putE
  rw [if_neg (by decide), if_neg (by rw [show lim 2 = 65536 from rfl]; omega)]
theorem seal_any {A : Option Addr} {c : Nat} {xs : List Int} {w : World} (hc : CI .u8 w A c xs) (hf : WF xs) (hl : xs.length ≤ 900) :
    Calls Tryd.prog 25 #[.slice A xs.length c] w fun e w' => ∃ r, e = .returned r ∧ OI .u8 5 w w' r (xs ++ putB 2 (sumB xs)) := by
  have HS := Aside0.mk (sum_any hc hf (Nat.le_trans hl (by decide)))
  have HP := Aside0.mk (put_ok (putE_sum xs) hc hl)
  clear hc hf hl
  go_enter Tryd.func25, Tryd.ntmps25
  go_wp2_with (first | (go_at_call 55; refine HS.out.mono ?_; clear HS; rintro e w' ⟨rfl, rfl⟩) | (go_at_call 24; refine HP.out.mono ?_; clear HP; rintro e w' ⟨r, rfl, ho⟩; have HO := Aside0.mk ho; clear ho))
  go_ret
  exact ⟨_, rfl, HO.out⟩
theorem rSeal_any {A : Option Addr} {c : Nat} {xs : List Int} {w : World} (hc : CI .u8 w A c xs) (hf : WF xs) (hl : xs.length ≤ 900) :
    Calls Tryd.prog 17 #[.slice A xs.length c] w fun e w' => ∃ r, e = .returned r ∧ OI .u8 5 w w' r (xs ++ putB 2 (sumB xs)) := by
  have HS := Aside0.mk (rSum_any hc hf (Nat.le_trans hl (by decide)))
  have HP := Aside0.mk (rPut_ok (putE_sum xs) hc hl)
  clear hc hf hl
  go_enter Tryd.func17, Tryd.ntmps17
  go_wp2_with (first | (go_at_call 38; refine HS.out.mono ?_; clear HS; rintro e w' ⟨rfl, rfl⟩) | (go_at_call 37; refine HP.out.mono ?_; clear HP; rintro e w' ⟨r, rfl, ho⟩; have HO := Aside0.mk ho; clear ho))
  go_ret
  exact ⟨_, rfl, HO.out⟩
end Go.Proofs.YtdebbanloopcgaaDoor.Wi
