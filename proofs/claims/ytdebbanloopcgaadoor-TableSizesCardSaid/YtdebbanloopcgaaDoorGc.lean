/- Layer 4 (config): configs that the document's Good may make: they may be. -/
import Derived.Test.YtdebbanloopcgaaDoorCfM1
set_option linter.unusedVariables false
set_option linter.unusedSimpArgs false
namespace Go.Proofs.YtdebbanloopcgaaDoor.Cf
open Go.RowKit Go.Proofs.YtdebbanloopcgaaDoorW.PrintWords Go.Proofs.YtdebbanloopcgaaDoorW.PrintLast Go.Proofs.YtdebbanloopcgaaDoorW.PrintMore Go.Proofs.YtdebbanloopcgaaDoor.Cz Go.Proofs.YtdebbanloopcgaaDoor.PTableWrites
/-! What may be. -/
def chain (p : Int) : Int → List S46 → Prop
  | _, [] => True
  | en, x :: t => ((-1 ≤ x.f0 ∧ x.f0 ≤ p - 1) ∧ 1 ≤ x.f2 ∧ en ≤ x.f1) ∧ chain p (x.f1 + x.f2) t
def endW : Int → List S46 → Int
  | en, [] => en
  | _, x :: t => endW (x.f1 + x.f2) t
theorem chain_end {p : Int} : ∀ {en : Int} {l : List S46}, chain p en l → en ≤ endW en l
  | en, [], _ => Int.le_refl _
  | en, x :: t, h => by
    have h1 := chain_end h.2
    have h2 := h.1
    show en ≤ endW (x.f1 + x.f2) t
    omega
theorem chain_snoc {p : Int} {x : S46} : ∀ {en : Int} {l : List S46}, chain p en l → ((-1 ≤ x.f0 ∧ x.f0 ≤ p - 1) ∧ 1 ≤ x.f2 ∧ endW en l ≤ x.f1) → chain p en (l ++ [x])
  | en, [], _, hx => ⟨hx, trivial⟩
  | en, y :: t, h, hx => ⟨h.1, chain_snoc h.2 hx⟩
theorem endW_snoc {x : S46} : ∀ {en : Int} {l : List S46}, endW en (l ++ [x]) = x.f1 + x.f2
  | en, [] => rfl
  | en, y :: t => endW_snoc (l := t)
theorem badW_ok {p f en : Int} {x : S46} (h : (-1 ≤ x.f0 ∧ x.f0 ≤ p - 1) ∧ 1 ≤ x.f2 ∧ en ≤ x.f1) (h0 : 0 ≤ en) (hf : x.f1 + x.f2 ≤ f) : badW p f en x = false := by
  unfold badW btw
  have a1 : decide (-1 ≤ x.f0 ∧ x.f0 ≤ p - 1) = true := decide_eq_true h.1
  have a2 : decide (x.f2 < 1) = false := decide_eq_false (by omega)
  have a3 : decide (f < x.f2) = false := decide_eq_false (by omega)
  have a4 : decide (x.f1 < en) = false := decide_eq_false (by omega)
  have a5 : decide (f - x.f2 < x.f1) = false := decide_eq_false (by omega)
  rw [a1, a2, a3, a4, a5]
  rfl
theorem scan_ok {p f : Int} : ∀ {en : Int} {l : List S46} (i : Nat), chain p en l → 0 ≤ en → endW en l ≤ f → scanW p f en i l = none
  | en, [], i, _, _, _ => rfl
  | en, x :: t, i, h, h0, hf => by
    have h1 := chain_end h.2
    have h2 := h.1
    have h3 : endW (x.f1 + x.f2) t ≤ f := hf
    show (if badW p f en x = true then _ else _) = none
    rw [badW_ok h.1 h0 (by omega), if_neg (by decide)]
    exact scan_ok (i + 1) h.2 (by omega) h3
/-- A config that Good may make. -/
structure GoodC (G : Cfg) : Prop where
  p : 1 ≤ G.p ∧ G.p ≤ 4
  f : 1 ≤ G.f ∧ G.f ≤ 64
  w : 1 ≤ G.ws.length ∧ G.ws.length ≤ 6
  c : chain G.p 0 G.ws
  e : endW 0 G.ws ≤ G.f
  k : G.ks.length ≤ 5
  r : ∀ x ∈ G.ks, rB G.p x = true
  a : (G.ac.length : Int) = G.p
  v : ∀ n ∈ G.ac, 0 ≤ n ∧ n ≤ 2
theorem findI_none {α : Type} {q : α → Bool} : ∀ {l : List α} {i : Nat}, (∀ x ∈ l, q x = false) → findI q l i = -1
  | [], i, _ => rfl
  | x :: t, i, h => by
    show (if q x = true then _ else _) = _
    rw [h x (List.mem_cons_self ..), if_neg (by decide)]
    exact findI_none fun y hy => h y (List.mem_cons_of_mem _ hy)
theorem GoodC.hd {G : Cfg} (h : GoodC G) : hd G.p G.f G.ws.length = none := by
  have h1 := h.p
  have h2 := h.f
  have h3 := h.w
  unfold Cz.hd
  have a1 : btw G.p 1 4 = true := decide_eq_true h1
  have a2 : btw G.f 1 64 = true := decide_eq_true h2
  have a3 : btw (G.ws.length : Int) 1 8 = true := decide_eq_true (by omega)
  rw [a1, a2, a3]
  rfl
theorem GoodC.ls {G : Cfg} (h : GoodC G) : ls G = none := by
  unfold Cf.ls
  have h1 := h.k
  have h2 := h.a
  rw [scan_ok 0 h.c (Int.le_refl _) h.e]
  show (if 6 < G.ks.length then _ else _) = _
  rw [if_neg (by omega), findI_none (fun x hx => by rw [h.r x hx]; rfl), if_neg (by decide), if_neg (fun hh => hh h2), findI_none (fun n hn => by have := h.v n hn; rw [show btw n 0 2 = true from decide_eq_true this]; rfl), if_neg (by decide)]
theorem GoodC.chk {G : Cfg} (h : GoodC G) : chk G = ⟨0, 0, 0⟩ := by
  unfold Cf.chk
  rw [h.hd, h.ls]
end Go.Proofs.YtdebbanloopcgaaDoor.Cf
