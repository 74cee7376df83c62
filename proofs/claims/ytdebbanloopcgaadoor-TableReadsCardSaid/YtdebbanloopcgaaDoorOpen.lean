/- Arguments opened: slices of structs whose fields are all int, as rows of numbers. -/
import Derived.Test.YtdebbanloopcgaaDoorBase
import Derived.Deep.Slices
import Derived.Deep.Fields
import Derived.ChangeSame
import Derived.ProofKit
import Derived.OpenShut
import Derived.Carry
set_option linter.unusedVariables false
set_option linter.unusedSimpArgs false
namespace Go.Proofs.YtdebbanloopcgaaDoor.Open
open Go.RowKit Go.ChangeShapes Go.WideShapes Go.Deep
section
variable {H : Type} {enc : TypeId × Value → H} {P : Program} {w : World} {base : Nat} {spare : Nat → Bool} {held : Bool}
theorem open_slice_fields {t e : TypeId} {fs : Array Field} {fuel : Nat} {cs : List Value} {x : DataW H × List MemPlace} (ht : P.underlying t = some (.slice e)) (he : P.underlying e = some (.struct fs))
    (hone : oneCellFields P fs = true) (hC : P.cellsOf e = fs.size) (h : DataW.trod enc P w base spare held fuel t cs = some x) :
    (cs = [.slice none 0 0] ∧ x = (.nil, [])) ∨
    ∃ (a : Addr) (len cap m : Nat) (D : Nat → DataW H) (Pl : Nat → List MemPlace), cs = [.slice (some a) len cap] ∧ base ≤ a.block ∧ len ≤ cap ∧ cap ≤ maxLen ∧ m = (if spare a.block then cap else len) ∧
      x = (.slice ((List.range len).map D) ((List.range (m - len)).map fun j => D (len + j)), MemPlace.row a (m * fs.size) ++ (List.range m).flatMap Pl) ∧
      ∀ i, i < m → ∃ (ys : List (DataW H × List MemPlace)) (n : Nat), D i = .agg (ys.map (·.1)) ∧ Pl i = ys.flatMap (·.2) ∧ ys.length = fs.size ∧
        ∀ (j : Nat) (f : Field), fs[j]? = some f → ∃ (v : Value) (y : DataW H × List MemPlace), w.cell? (a.add (i * fs.size + j)) = some v ∧ ys[j]? = some y ∧ DataW.trod enc P w base spare held n f.type [v] = some y := by
  rcases open_slice ht h with h0 | ⟨a, len, cap, m, n, D, Pl, hcs, hb, hl, hm, hmm, hx, hi⟩
  · exact .inl h0
  · refine .inr ⟨a, len, cap, m, D, Pl, hcs, hb, hl, hm, hmm, by rw [hC] at hx; exact hx, fun i him => ?_⟩
    obtain ⟨cs', hc, ht'⟩ := hi i him
    rw [hC] at hc
    obtain ⟨ys, n', hn', hy, hlen, hyl, hf⟩ := DataW.trod_struct he ht'
    obtain ⟨_, hcl, hat⟩ := World.cells?_some hc
    simp only [Prod.mk.injEq] at hy
    refine ⟨ys, n', hy.1, hy.2, hyl, fun j f hj => ?_⟩
    obtain ⟨ho, hk⟩ := hone_of hone j f hj
    have hjl : j < fs.size := (Array.getElem?_eq_some_iff.1 hj).1
    have hcell := hat j hjl
    have hv : cs'[j]? = some (cs'[j]'(by omega)) := List.getElem?_eq_getElem (by omega)
    have h1 := hf j f hj
    rw [ho, hk] at h1
    have hone' : (cs'.drop j).take 1 = [cs'[j]'(by omega)] := by
      rw [List.drop_eq_getElem_cons (by omega)]
      rfl
    rw [hone'] at h1
    have hys : ys[j]? = some (ys[j]'(by omega)) := List.getElem?_eq_getElem (by omega)
    refine ⟨_, _, ?_, hys, h1.trans hys⟩
    rw [← Go.Deep.add_add, hcell, hv]

/-- n rows of sz numbers each, one behind the other. -/
def IntRows (w : World) (a : Option Addr) (n sz : Nat) (L : Nat → Nat → Int) : Prop :=
  n = 0 ∨ ∃ b off, a = some ⟨b, off, none⟩ ∧ ∀ i, i < n → ∀ j, j < sz → w.cell? ⟨b, off + i * sz + j, none⟩ = some (.int .i64 (L i j))
theorem IntRows.less {a : Option Addr} {n m sz : Nat} {L : Nat → Nat → Int} (h : IntRows w a n sz L) (hm : m ≤ n) : IntRows w a m sz L := by
  rcases h with h | ⟨b, off, ha, h⟩
  · exact .inl (by omega)
  · exact .inr ⟨b, off, ha, fun i hi => h i (by omega)⟩
theorem IntRows.below {w' : World} {a : Option Addr} {n sz : Nat} {L : Nat → Nat → Int} (h : IntRows w a n sz L) (hb : Below w.heap.size w w') : IntRows w' a n sz L := by
  rcases h with h | ⟨b, off, ha, h⟩
  · exact .inl h
  · exact .inr ⟨b, off, ha, fun i hi j hj => (hb.cell (World.block_lt_of_cell? w _ (h i hi j hj))).trans (h i hi j hj)⟩
theorem IntRows.at_ {a : Option Addr} {n sz : Nat} {L : Nat → Nat → Int} (h : IntRows w a n sz L) {i : Nat} (hi : i < n) : ∃ b off, a = some ⟨b, off, none⟩ ∧ ∀ j, j < sz → w.cell? ⟨b, off + i * sz + j, none⟩ = some (.int .i64 (L i j)) := by
  rcases h with h | ⟨b, off, ha, h⟩
  · omega
  · exact ⟨b, off, ha, h i hi⟩
theorem add_row (b off k : Nat) : (⟨b, off, none⟩ : Addr).add k = ⟨b, off + k, none⟩ := by unfold Addr.add; split <;> simp_all
theorem open_int_rows' {t e ti : TypeId} {fs : Array Field} {fuel : Nat} {a : Option Addr} {len cap : Nat} {x : DataW H × List MemPlace} (ht : P.underlying t = some (.slice e)) (he : P.underlying e = some (.struct fs))
    (hone : oneCellFields P fs = true) (hC : P.cellsOf e = fs.size) (hint : P.underlying ti = some (.int .i64)) (hall : ∀ (j : Nat) (f : Field), fs[j]? = some f → f.type = ti) (h0 : 0 < fs.size) (h : DataW.trod enc P w base spare held fuel t [.slice a len cap] = some x) :
    ∃ L : Nat → Nat → Int, len ≤ cap ∧ cap ≤ maxLen ∧ IntRows w a len fs.size L ∧ ∀ i j, (Lit.int .i64 (L i j)).wf = true := by
  rcases open_slice_fields ht he hone hC h with ⟨hcs, _⟩ | ⟨ad, len', cap', m, D, Pl, hcs, _, hl, hm, hmm, _, hi⟩
  · simp only [List.cons.injEq, and_true, Value.slice.injEq] at hcs
    obtain ⟨rfl, rfl, rfl⟩ := hcs
    exact ⟨fun _ _ => 0, Nat.le_refl _, Nat.zero_le _, .inl rfl, fun _ _ => rfl⟩
  · simp only [List.cons.injEq, and_true, Value.slice.injEq] at hcs
    obtain ⟨rfl, rfl, rfl⟩ := hcs
    have hml : len ≤ m := by
      rw [hmm]
      split <;> omega
    have key : ∀ i, i < len → ∀ j, j < fs.size → ∃ z : Int, w.cell? (ad.add (i * fs.size + j)) = some (.int .i64 z) ∧ (Lit.int .i64 z).wf = true := by
      intro i hil j hj
      obtain ⟨ys, n, _, _, _, hf⟩ := hi i (by omega)
      obtain ⟨v, y, hc, hy, htr⟩ := hf j fs[j] (Array.getElem?_eq_getElem hj)
      rw [hall j fs[j] (Array.getElem?_eq_getElem hj)] at htr
      obtain ⟨z, hz, _, hw⟩ := DataW.trod_int hint htr
      simp at hz
      subst hz
      exact ⟨z, hc, hw⟩
    have pick : ∀ i j, ∃ z : Int, (i < len → j < fs.size → w.cell? (ad.add (i * fs.size + j)) = some (.int .i64 z)) ∧ (Lit.int .i64 z).wf = true := by
      intro i j
      by_cases hij : i < len ∧ j < fs.size
      · obtain ⟨z, hz, hw⟩ := key i hij.1 j hij.2
        exact ⟨z, fun _ _ => hz, hw⟩
      · exact ⟨0, fun h1 h2 => absurd ⟨h1, h2⟩ hij, rfl⟩
    obtain ⟨L, hL⟩ : ∃ L : Nat → Nat → Int, ∀ i j, (i < len → j < fs.size → w.cell? (ad.add (i * fs.size + j)) = some (.int .i64 (L i j))) ∧ (Lit.int .i64 (L i j)).wf = true := ⟨fun i j => Classical.choose (pick i j), fun i j => Classical.choose_spec (pick i j)⟩
    refine ⟨L, hl, hm, ?_, fun i j => (hL i j).2⟩
    rcases Nat.eq_zero_or_pos len with hz | hz
    · exact .inl hz
    · obtain ⟨z, hc0, _⟩ := key 0 hz 0 h0
      obtain ⟨b, off, sp⟩ := ad
      have hsp : sp = none := by
        cases sp with
        | none => rfl
        | some s =>
          exfalso
          unfold Addr.add World.cell? at hc0
          split at hc0 <;> simp_all
      subst hsp
      refine .inr ⟨b, off, rfl, fun i hi' j hj' => ?_⟩
      have := (hL i j).1 hi' hj'
      rw [add_row] at this
      rw [Nat.add_assoc]
      exact this
end
end Go.Proofs.YtdebbanloopcgaaDoor.Open
