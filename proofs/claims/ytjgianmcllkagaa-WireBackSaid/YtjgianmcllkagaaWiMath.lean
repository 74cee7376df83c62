/- Layer 3 (wire) in plain words: how many numbers of a width there are, their bytes, sums, what a reader answers. -/
import Derived.Test.YtjgianmcllkagaaWi
set_option linter.unusedVariables false
set_option linter.unusedSimpArgs false
namespace Go.Proofs.Ytjgianmcllkagaa.Wi
open Go.RowKit Go.Proofs.YtjgianmcllkagaaW.PrintWords Go.Proofs.YtjgianmcllkagaaW.PrintLast Go.Proofs.YtjgianmcllkagaaW.PrintMore
/-! What the rows open. -/
abbrev ReadsIntW := @ReadsInt
theorem ofRowW {k : IntKind} {w : World} {a : Option Addr} {len cap : Nat} {zs : List Int} (h : (a = none ∧ len = 0 ∧ cap = 0 ∧ zs = []) ∨ ∃ x, a = some x ∧ len ≤ cap ∧ cap ≤ maxLen ∧ zs.length = cap ∧ (∀ i, i < zs.length → w.cell? (x.add i) = some (.int k (zs.getD i 0))) ∧ ∀ n ∈ zs, (Lit.int k n).wf = true) :
    ∃ l : List Int, len = l.length ∧ ReadsIntW w k a l.length l ∧ l.length ≤ maxLen ∧ (∀ x ∈ l, (Lit.int k x).wf = true) ∧ l.length ≤ cap := ReadsInt.ofRowC h
theorem ci_of {k : IntKind} {w : World} {a : Option Addr} {c : Nat} {xs : List Int} (h : ReadsIntW w k a xs.length xs) (hc : xs.length ≤ c) : CI k w a c xs := by
  obtain ⟨h1, h2, h3⟩ := h
  refine ⟨⟨rfl, h2, fun hp => ?_⟩, hc⟩
  obtain ⟨ad, rfl, h4⟩ := h3 hp
  refine ⟨ad, rfl, fun j p hj => ⟨[Value.int k p], rfl, rfl, fun i u hu => ?_⟩⟩
  have hi0 : i = 0 := by
    rcases i with _ | i
    · rfl
    · simp at hu
  subst hi0
  simp at hu
  subst hu
  have hjl : j < xs.length := (List.getElem?_eq_some_iff.1 hj).1
  have h5 := h4 j hjl
  have e : xs.getD j 0 = p := by rw [List.getD_eq_getElem?_getD, hj]; rfl
  rw [e] at h5
  show w.cell? (ad.add (j * 1 + 0)) = _
  rw [show j * 1 + 0 = j by omega]
  exact h5
/-- How many numbers of n bytes there are. -/
def lim (n : Int) : Int := if n = 1 then 256 else if n = 2 then 65536 else if n = 4 then 4294967296 else 0
def putE (n v : Int) : Int := if lim n = 0 then 8 else if v < 0 ∨ lim n ≤ v then 7 else 0
def putB (n v : Int) : List Int := if n = 1 then [v % 256] else if n = 2 then [v / 256 % 256, v % 256] else [v / 16777216 % 256, v / 65536 % 256, v / 256 % 256, v % 256]
def WF (xs : List Int) : Prop := ∀ x ∈ xs, 0 ≤ x ∧ x < 256
def sumB (xs : List Int) : Int := xs.sum % 65536
def valB (xs : List Int) : Int := xs.foldl (fun a c => 256 * a + c) 0
theorem byte_wf {x : Int} (h : (Lit.int .u8 x).wf = true) : 0 ≤ x ∧ x < 256 := by
  simp [Lit.wf, IntKind.min, IntKind.max, IntKind.bits, IntKind.signed] at h
  omega
theorem wf_of {xs : List Int} (h : ∀ x ∈ xs, (Lit.int .u8 x).wf = true) : WF xs := fun x hx => byte_wf (h x hx)
theorem WF.nil : WF [] := fun _ h => by simp at h
theorem WF.app {xs ys : List Int} (h : WF xs) (k : WF ys) : WF (xs ++ ys) := fun x hx => by
  rcases List.mem_append.1 hx with hx | hx
  · exact h x hx
  · exact k x hx
theorem WF.take {xs : List Int} (h : WF xs) (n : Nat) : WF (xs.take n) := fun x hx => h x (List.mem_of_mem_take hx)
theorem WF.drop {xs : List Int} (h : WF xs) (n : Nat) : WF (xs.drop n) := fun x hx => h x (List.mem_of_mem_drop hx)
theorem WF.putB (n v : Int) : WF (putB n v) := fun x hx => by
  unfold Wi.putB at hx
  split at hx
  · simp at hx; omega
  · split at hx
    · simp at hx; omega
    · simp at hx; omega
theorem wf_rd {xs : List Int} (h : WF xs) {i : Nat} (hi : i < xs.length) : 0 ≤ rd xs i ∧ rd xs i < 256 := by
  have : rd xs (i : Int) = xs[i] := by unfold rd; simp [hi]
  rw [this]
  exact h _ (List.getElem_mem hi)
theorem sum_bound {xs : List Int} (h : WF xs) : 0 ≤ xs.sum ∧ xs.sum ≤ 255 * xs.length := by
  induction xs with
  | nil => simp
  | cons x xs ih =>
    have h1 := h x (by simp)
    have h2 := ih (fun y hy => h y (by simp [hy]))
    simp only [List.sum_cons, List.length_cons]
    omega
theorem take_succ_rd {xs : List Int} {i : Nat} (hi : i < xs.length) : xs.take (i + 1) = xs.take i ++ [rd xs i] := by
  have : rd xs (i : Int) = xs[i] := by unfold rd; simp [hi]
  rw [this, List.take_add_one, List.getElem?_eq_getElem hi]
  rfl
theorem sum_snoc (xs : List Int) (x : Int) : (xs ++ [x]).sum = xs.sum + x := by simp
theorem val_snoc (xs : List Int) (x : Int) : valB (xs ++ [x]) = 256 * valB xs + x := by unfold valB; simp
theorem sumB_bound (xs : List Int) : 0 ≤ sumB xs ∧ sumB xs < 65536 := by unfold sumB; omega
theorem lim_of {n : Int} (h : lim n ≠ 0) : n = 1 ∨ n = 2 ∨ n = 4 := by
  unfold lim at h
  split at h
  · omega
  · split at h
    · omega
    · split at h
      · omega
      · exact absurd rfl h
theorem lim_not {n : Int} (h : lim n = 0) : n ≠ 1 ∧ n ≠ 2 ∧ n ≠ 4 := by
  unfold lim at h
  split at h
  · omega
  · split at h
    · omega
    · split at h
      · omega
      · omega
/-- What is left for a reader, and its error. -/
structure Rd where
  b : List Int
  e : Int
def next (r : Rd) (n : Int) : Rd := if r.e ≠ 0 then r else if lim n = 0 then ⟨[], 8⟩ else if (r.b.length : Int) < n then ⟨[], 9⟩ else ⟨r.b.drop n.toNat, 0⟩
def nextV (r : Rd) (n : Int) : Int := if r.e ≠ 0 then 0 else if lim n = 0 then 0 else if (r.b.length : Int) < n then 0 else valB (r.b.take n.toNat)
def endE (r : Rd) : Int := if r.e = 0 ∧ 0 < r.b.length then 8 else r.e
theorem val_bound {xs : List Int} (h : WF xs) (hl : xs.length ≤ 4) : 0 ≤ valB xs ∧ valB xs < 4294967296 := by
  rcases xs with _ | ⟨a, _ | ⟨b, _ | ⟨c, _ | ⟨d, _ | ⟨e, t⟩⟩⟩⟩⟩
  · simp [valB]
  · have := h a (by simp); simp [valB]; omega
  · have := h a (by simp); have := h b (by simp); simp [valB]; omega
  · have := h a (by simp); have := h b (by simp); have := h c (by simp); simp [valB]; omega
  · have := h a (by simp); have := h b (by simp); have := h c (by simp); have := h d (by simp); simp [valB]; omega
  · simp at hl
end Go.Proofs.Ytjgianmcllkagaa.Wi
