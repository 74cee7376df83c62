/- Layer 4 (config): where channels lead, in plain words; a search's bookkeeping. -/
import Derived.Test.YtdebbanloopcgaaDoorCfM1
set_option linter.unusedVariables false
set_option linter.unusedSimpArgs false
namespace Go.Proofs.YtdebbanloopcgaaDoor.Cf
open Go.RowKit Go.Proofs.YtdebbanloopcgaaDoorW.PrintWords Go.Proofs.YtdebbanloopcgaaDoorW.PrintLast Go.Proofs.YtdebbanloopcgaaDoorW.PrintMore Go.Proofs.YtdebbanloopcgaaDoor.Cz Go.Proofs.YtdebbanloopcgaaDoor.PTableWrites
/-- Channels lead from a to b. -/
inductive Rch (ks : List S57) (a : Int) : Int → Prop
  | refl : Rch ks a a
  | step (x : S57) : Rch ks a x.f1 → x ∈ ks → Rch ks a x.f2
theorem Rch.trans {ks : List S57} {a b c : Int} (h : Rch ks a b) (k : Rch ks b c) : Rch ks a c := by
  induction k with
  | refl => exact h
  | step x _ hx ih => exact .step x ih hx
theorem Rch.mono {ks ls : List S57} (hs : ∀ x ∈ ks, x ∈ ls) {a b : Int} (h : Rch ks a b) : Rch ls a b := by
  induction h with
  | refl => exact .refl
  | step x _ hx ih => exact .step x ih (hs x hx)
open Classical in
/-- What Path answers. -/
noncomputable def pathB (C : Cfg) (a b : Int) : Bool := decide ((chk C).e = 0 ∧ (0 ≤ a ∧ a ≤ C.p - 1) ∧ (0 ≤ b ∧ b ≤ C.p - 1) ∧ Rch C.ks a b)
/-- How many of 0, 1, 2, 3 are not in S. -/
def uns (S : Int → Bool) : Nat := (if S 0 = true then 0 else 1) + (if S 1 = true then 0 else 1) + (if S 2 = true then 0 else 1) + (if S 3 = true then 0 else 1)
def upd (S : Int → Bool) (k : Int) : Int → Bool := fun i => if i = k then true else S i
theorem upd_same (S : Int → Bool) (k : Int) : upd S k k = true := by unfold upd; rw [if_pos rfl]
theorem upd_old {S : Int → Bool} {k i : Int} (h : S i = true) : upd S k i = true := by
  unfold upd
  split
  · rfl
  · exact h
theorem upd_inv {S : Int → Bool} {k i : Int} (h : upd S k i = true) : i = k ∨ S i = true := by
  unfold upd at h
  split at h
  · exact .inl (by assumption)
  · exact .inr h
theorem uns_upd {S : Int → Bool} {k : Int} (hk : 0 ≤ k ∧ k < 4) (h : S k = false) : uns (upd S k) + 1 = uns S := by
  obtain rfl | rfl | rfl | rfl : k = 0 ∨ k = 1 ∨ k = 2 ∨ k = 3 := by omega
  all_goals
    unfold uns upd
    simp only [h]
    simp
    try omega
structure BF (ks : List S57) (a : Int) (q : List Int) (S : Int → Bool) : Prop where
  sa : S a = true
  sr : ∀ i, S i = true → Rch ks a i
  sq : ∀ i ∈ q, S i = true
  cl : ∀ i, S i = true → i ∈ q ∨ ∀ x ∈ ks, x.f1 = i → S x.f2 = true
structure BI (ks : List S57) (a h : Int) (t : List Int) (S : Int → Bool) (j : Nat) : Prop where
  bf : BF ks a (h :: t) S
  jj : ∀ x ∈ ks.take j, x.f1 = h → S x.f2 = true
theorem BF.start (ks : List S57) (a : Int) : BF ks a [a] (upd (fun _ => false) a) := by
  refine ⟨upd_same _ _, fun i hi => ?_, fun i hi => ?_, fun i hi => ?_⟩
  · rcases upd_inv hi with rfl | h
    · exact .refl
    · cases h
  · rw [List.mem_singleton.1 hi]
    exact upd_same _ _
  · rcases upd_inv hi with rfl | h
    · exact .inl (List.mem_singleton.2 rfl)
    · cases h
section
variable {ks : List S57} {a h : Int} {t q : List Int} {S : Int → Bool} {j : Nat}
theorem BI.start (b : BF ks a (h :: t) S) : BI ks a h t S 0 := ⟨b, fun x hx => by simp at hx⟩
theorem take_mem {α : Type} {l : List α} {j : Nat} (hj : j < l.length) {x : α} (hx : x ∈ l.take (j + 1)) : x ∈ l.take j ∨ x = l[j] := by
  rw [List.take_succ_eq_append_getElem hj] at hx
  rcases List.mem_append.1 hx with h | h
  · exact .inl h
  · exact .inr (List.mem_singleton.1 h)
theorem BI.skip (b : BI ks a h t S j) (hj : j < ks.length) (hx : ks[j].f1 = h → S ks[j].f2 = true) : BI ks a h t S (j + 1) :=
  ⟨b.bf, fun x hm he => by
    rcases take_mem hj hm with h1 | rfl
    · exact b.jj x h1 he
    · exact hx he⟩
theorem BI.push (b : BI ks a h t S j) (hj : j < ks.length) (h1 : ks[j].f1 = h) : BI ks a h (t ++ [ks[j].f2]) (upd S ks[j].f2) (j + 1) := by
  refine ⟨⟨upd_old b.bf.sa, fun i hi => ?_, fun i hi => ?_, fun i hi => ?_⟩, fun x hm he => ?_⟩
  · rcases upd_inv hi with rfl | hi
    · exact .step ks[j] (by rw [h1]; exact b.bf.sr h (b.bf.sq h (List.mem_cons_self ..))) (List.getElem_mem hj)
    · exact b.bf.sr i hi
  · rcases List.mem_cons.1 hi with rfl | hi
    · exact upd_old (b.bf.sq _ (List.mem_cons_self ..))
    · rcases List.mem_append.1 hi with hi | hi
      · exact upd_old (b.bf.sq i (List.mem_cons_of_mem _ hi))
      · rw [List.mem_singleton.1 hi]
        exact upd_same _ _
  · rcases upd_inv hi with rfl | hi
    · exact .inl (List.mem_cons_of_mem _ (List.mem_append_right _ (List.mem_singleton.2 rfl)))
    · rcases b.bf.cl i hi with hq | hc
      · rcases List.mem_cons.1 hq with rfl | hq
        · exact .inl (List.mem_cons_self ..)
        · exact .inl (List.mem_cons_of_mem _ (List.mem_append_left _ hq))
      · exact .inr fun x hx he => upd_old (hc x hx he)
  · rcases take_mem hj hm with h2 | rfl
    · exact upd_old (b.jj x h2 he)
    · exact upd_same _ _
theorem BI.pop (b : BI ks a h t S j) (hj : ks.length ≤ j) : BF ks a t S := by
  refine ⟨b.bf.sa, b.bf.sr, fun i hi => b.bf.sq i (List.mem_cons_of_mem _ hi), fun i hi => ?_⟩
  rcases b.bf.cl i hi with hq | hc
  · rcases List.mem_cons.1 hq with rfl | hq
    · refine .inr fun x hx he => b.jj x ?_ he
      rw [List.take_of_length_le hj]
      exact hx
    · exact .inl hq
  · exact .inr hc
theorem BF.done (b : BF ks a [] S) (i : Int) : S i = true ↔ Rch ks a i := by
  refine ⟨b.sr i, fun h => ?_⟩
  induction h with
  | refl => exact b.sa
  | step x _ hx ih =>
    rcases b.cl x.f1 ih with h1 | h1
    · cases h1
    · exact h1 x hx rfl
end
/-! What Check lets through. -/
theorem findI_neg {α : Type} {q : α → Bool} : ∀ {l : List α} {i : Nat}, findI q l i < 0 → ∀ x ∈ l, q x = false
  | [], i, _, x, hx => by cases hx
  | y :: t, i, h, x, hx => by
    have h' : (if q y = true then (i : Int) else findI q t (i + 1)) < 0 := h
    cases hq : q y
    · rw [hq, if_neg (by decide)] at h'
      rcases List.mem_cons.1 hx with rfl | hx
      · exact hq
      · exact findI_neg h' x hx
    · rw [hq, if_pos rfl] at h'
      omega
theorem rB_range {p : Int} {x : S57} (h : rB p x = true) : (0 ≤ x.f1 ∧ x.f1 < p) ∧ (0 ≤ x.f2 ∧ x.f2 < p) ∧ x.f1 ≠ x.f2 := by
  unfold rB rightB at h
  simp only [Bool.and_eq_true, Bool.not_eq_true', decide_eq_false_iff_not, beq_eq_false_iff_ne] at h
  obtain ⟨h1, h2, h3, _⟩ := h
  split at h1 <;> split at h2 <;> exact ⟨⟨by omega, by omega⟩, ⟨by omega, by omega⟩, h3⟩
theorem chk_ok {C : Cfg} (h : (chk C).e = 0) : Cz.hd C.p C.f C.ws.length = none ∧ ls C = none := by
  unfold chk at h
  cases h1 : Cz.hd C.p C.f C.ws.length
  · rw [h1] at h
    cases h2 : ls C
    · exact ⟨rfl, rfl⟩
    · rw [h2] at h
      cases h
  · rw [h1] at h
    cases h
theorem chk_p {C : Cfg} (h : (chk C).e = 0) : 1 ≤ C.p ∧ C.p ≤ 4 := (hd_none (chk_ok h).1).1
theorem chk_k {C : Cfg} (h : (chk C).e = 0) : C.ks.length ≤ 6 ∧ ∀ x ∈ C.ks, rB C.p x = true := by
  have h2 := (chk_ok h).2
  unfold ls at h2
  cases h3 : scanW C.p C.f 0 0 C.ws
  · rw [h3] at h2
    have h2' : (if 6 < C.ks.length then some (4, -1) else if 0 ≤ findI (fun x => !rB C.p x) C.ks 0 then some (4, findI (fun x => !rB C.p x) C.ks 0) else if (C.ac.length : Int) ≠ C.p then some (5, -1) else if 0 ≤ findI (fun n => !btw n 0 2) C.ac 0 then some (5, findI (fun n => !btw n 0 2) C.ac 0) else none : Option (Int × Int)) = none := h2
    by_cases h4 : 6 < C.ks.length
    · rw [if_pos h4] at h2'
      cases h2'
    · rw [if_neg h4] at h2'
      by_cases h5 : 0 ≤ findI (fun x => !rB C.p x) C.ks 0
      · rw [if_pos h5] at h2'
        cases h2'
      · refine ⟨by omega, fun x hx => ?_⟩
        have := findI_neg (q := fun x => !rB C.p x) (Int.not_le.1 h5) x hx
        simpa using this
  · rw [h3] at h2
    cases h2
end Go.Proofs.YtdebbanloopcgaaDoor.Cf
