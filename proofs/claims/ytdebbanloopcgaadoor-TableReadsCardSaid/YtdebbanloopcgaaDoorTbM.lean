/- Layer 5 (table): the document's Same of two configs; the example's memory. -/
import Derived.Test.YtdebbanloopcgaaDoorCfM1
import Derived.Test.YtdebbanloopcgaaDoorPTableWritesx4
set_option linter.unusedVariables false
set_option linter.unusedSimpArgs false
namespace Go.Proofs.YtdebbanloopcgaaDoor.Cf
open Go Go.RowKit Go.Proofs.YtdebbanloopcgaaDoorW.PrintWords Go.Proofs.YtdebbanloopcgaaDoorW.PrintLast Go.Proofs.YtdebbanloopcgaaDoorW.PrintMore Go.Proofs.YtdebbanloopcgaaDoor.Cz Go.Proofs.YtdebbanloopcgaaDoor.PTableWrites
def n46 (a b : S46) : Bool := !(a.f0 == b.f0) || (!(a.f1 == b.f1) || !(a.f2 == b.f2))
def n57 (a b : S57) : Bool := !(a.f0 == b.f0) || (!(a.f1 == b.f1) || (!(a.f2 == b.f2) || (!(a.f3 == b.f3) || (!(a.f4 == b.f4) || (!(a.f5 == b.f5) || (!(a.f6 == b.f6) || (!(a.f7 == b.f7) || (!(a.f8 == b.f8) || (!(a.f9 == b.f9) || !(a.f10 == b.f10))))))))))
def eqR {α : Type} (d : α → α → Bool) : List α → List α → Bool
  | x :: xs, y :: ys => if d x y = true then false else eqR d xs ys
  | _, _ => true
theorem eqR_step {α : Type} (d : α → α → Bool) {xs ys : List α} {j : Nat} (h1 : j < xs.length) (h2 : j < ys.length) : eqR d (xs.drop j) (ys.drop j) = if d xs[j] ys[j] = true then false else eqR d (xs.drop (j + 1)) (ys.drop (j + 1)) := by
  rw [List.drop_eq_getElem_cons h1, List.drop_eq_getElem_cons h2]
  rfl
theorem eqR_end {α : Type} (d : α → α → Bool) {xs ys : List α} {j : Nat} (h1 : xs.length ≤ j) : eqR d (xs.drop j) (ys.drop j) = true := by
  rw [List.drop_of_length_le h1]
  rfl
def eqL {α : Type} (d : α → α → Bool) (xs ys : List α) : Bool := if xs.length = ys.length then eqR d xs ys else false
def nI (a b : Int) : Bool := !(a == b)
def sB (C D : Cfg) : Bool := if C.p = D.p then (if C.f = D.f then (if eqL n46 C.ws D.ws = true then (if eqL n57 C.ks D.ks = true then eqL nI C.ac D.ac else false) else false) else false) else false
theorem wr (j : Nat) (h : j ≤ 100000) : wrap64 ((j : Int) + 1) = ((j + 1 : Nat) : Int) := by unfold wrap64; omega
theorem get46 {l : List S46} {j : Nat} (h : j < l.length) : rd_T46 l (j : Int) = l[j] := by simp [rd_T46, h]
theorem get57 {l : List S57} {j : Nat} (h : j < l.length) : rd_T57 l (j : Int) = l[j] := by simp [rd_T57, h]
theorem getI {l : List Int} {j : Nat} (h : j < l.length) : rd l (j : Int) = l[j] := by simp [rd, h]
theorem inR : ∀ (k j : Nat) (l0 l1 : List Int), l0.length = l1.length → l0.length ≤ 1000 → j ≤ l0.length → l0.length < k + j → empennageref01_Same.l0 k l0 l1 (j : Int) = some (eqR nI (l0.drop j) (l1.drop j))
  | 0, j, l0, l1, _, _, _, h => by omega
  | k + 1, j, l0, l1, hl, hm, hj, h => by
    unfold empennageref01_Same.l0
    by_cases hlt : j < l0.length
    · rw [if_pos (by omega), if_pos (by omega), if_pos (by omega), getI hlt, getI (show j < l1.length by omega), wr j (by omega), inR k (j + 1) l0 l1 hl hm (by omega) (by omega), eqR_step nI hlt (by omega)]
      by_cases he : l0[j] = l1[j]
      · rw [if_pos he, if_neg (by unfold nI; simp [he])]
      · rw [if_neg he, if_pos (by unfold nI; simp [he])]
    · rw [if_neg (by omega), eqR_end _ (by omega)]
theorem ir_f (l0 l1 : List Int) (hm : l0.length ≤ 1000) : empennageref01_Same.f 5000 l0 l1 = some (eqL nI l0 l1) := by
  unfold empennageref01_Same.f eqL
  by_cases h : l0.length = l1.length
  · rw [if_pos (by omega), if_pos h, show (0 : Int) = ((0 : Nat) : Int) from rfl, inR 5000 0 l0 l1 h hm (by omega) (by omega)]
    rfl
  · rw [if_neg (by omega), if_neg h]
theorem rc_l1 : ∀ (k j : Nat) (p f p' f' : Int) (w0 w1 : List S46) (l0 l1 : List S57) (a0 a1 : List Int), l0.length = l1.length → l0.length ≤ 1000 → j ≤ l0.length → l0.length < k + j → empennageref04_Same.l1 k (j : Int) p f w0 l0 a0 p' f' w1 l1 a1 = some (eqR n57 (l0.drop j) (l1.drop j))
  | 0, j, _, _, _, _, _, _, _, _, _, _, _, _, _, h => by omega
  | k + 1, j, p, f, p', f', w0, w1, l0, l1, a0, a1, hl, hm, hj, h => by
    unfold empennageref04_Same.l1
    by_cases hlt : j < l0.length
    · rw [if_pos (by omega), if_pos (by omega), if_pos (by omega), get57 hlt, get57 (show j < l1.length by omega), wr j (by omega), rc_l1 k (j + 1) p f p' f' w0 w1 l0 l1 a0 a1 hl hm (by omega) (by omega), eqR_step n57 hlt (by omega)]
      show (if n57 l0[j] l1[j] = true then _ else _) = _
      split <;> rfl
    · rw [if_neg (by omega), eqR_end _ (by omega)]
theorem rc_l0 : ∀ (k j : Nat) (p f p' f' : Int) (w0 w1 : List S46) (l0 l1 : List S57) (a0 a1 : List Int), w0.length = w1.length → w0.length ≤ 1000 → l0.length = l1.length → l0.length ≤ 1000 → j ≤ w0.length → w0.length + l0.length + 2 < k + j → empennageref04_Same.l0 k (j : Int) p f w0 l0 a0 p' f' w1 l1 a1 = some (eqR n46 (w0.drop j) (w1.drop j) && eqR n57 l0 l1)
  | 0, j, _, _, _, _, _, _, _, _, _, _, _, _, _, _, _, h => by omega
  | k + 1, j, p, f, p', f', w0, w1, l0, l1, a0, a1, hl, hm, hl2, hm2, hj, h => by
    unfold empennageref04_Same.l0
    by_cases hlt : j < w0.length
    · rw [if_pos (by omega), if_pos (by omega), if_pos (by omega), get46 hlt, get46 (show j < w1.length by omega), wr j (by omega), rc_l0 k (j + 1) p f p' f' w0 w1 l0 l1 a0 a1 hl hm hl2 hm2 (by omega) (by omega), eqR_step n46 hlt (by omega)]
      show (if n46 w0[j] w1[j] = true then _ else _) = _
      split
      · rfl
      · rfl
    · rw [if_neg (by omega), eqR_end _ (by omega), show (0 : Int) = ((0 : Nat) : Int) from rfl, rc_l1 k 0 p f p' f' w0 w1 l0 l1 a0 a1 hl2 hm2 (by omega) (by omega)]
      rfl
theorem j0_eq (k : Nat) (b : Bool) (p f : Int) (w0 : List S46) (l0 : List S57) (a0 : List Int) (p' f' : Int) (w1 : List S46) (l1 : List S57) (a1 : List Int) : empennageref04_Same.j0 (k + 1) b p f w0 l0 a0 p' f' w1 l1 a1 = if b = true then some false else empennageref04_Same.l0 k 0 p f w0 l0 a0 p' f' w1 l1 a1 := by
  rw [empennageref04_Same.j0]
theorem rsame_f (C D : Cfg) (h2 : C.ws.length ≤ 1000) (h3 : C.ks.length ≤ 1000) (h4 : C.ac.length ≤ 1000) : empennageref04_Same.f 5000 C.p C.f C.ws C.ks C.ac D.p D.f D.ws D.ks D.ac = some (sB C D) := by
  unfold empennageref04_Same.f sB
  have hj : ∀ b : Bool, b = true → empennageref04_Same.j0 5000 b C.p C.f C.ws C.ks C.ac D.p D.f D.ws D.ks D.ac = some false := fun b hb => by
    exact (j0_eq 4999 b _ _ _ _ _ _ _ _ _ _).trans (if_pos hb)
  rw [ir_f _ _ h4]
  by_cases e1 : C.p = D.p
  · rw [if_pos e1, if_pos e1]
    by_cases e2 : C.f = D.f
    · rw [if_pos e2, if_pos e2]
      by_cases e3 : C.ws.length = D.ws.length
      · rw [if_pos (by omega)]
        by_cases e4 : C.ks.length = D.ks.length
        · rw [if_pos (by omega)]
          simp only [Option.bind_some]
          rw [show empennageref04_Same.j0 5000 (!eqL nI C.ac D.ac) C.p C.f C.ws C.ks C.ac D.p D.f D.ws D.ks D.ac = _ from j0_eq 4999 _ _ _ _ _ _ _ _ _ _ _]
          rw [show (0 : Int) = ((0 : Nat) : Int) from rfl, rc_l0 4999 0 C.p C.f D.p D.f C.ws D.ws C.ks D.ks C.ac D.ac e3 h2 e4 h3 (by omega) (by omega)]
          unfold eqL
          rw [if_pos e3, if_pos e4]
          simp only [List.drop_zero]
          cases eqR n46 C.ws D.ws <;> cases eqR n57 C.ks D.ks <;> simp <;> (by_cases e5 : C.ac.length = D.ac.length <;> simp [e5] <;> cases eqR nI C.ac D.ac <;> simp)
        · rw [if_neg (by omega), hj _ rfl]
          unfold eqL
          rw [if_neg e4]
          simp
      · rw [if_neg (by omega), hj _ rfl]
        unfold eqL
        rw [if_neg e3]
        simp
    · rw [if_neg e2, if_neg e2, hj _ rfl]
  · rw [if_neg e1, if_neg e1, hj _ rfl]
theorem rsame_any {C D : Cfg} {A2 A3 A4 B2 B3 B4 : Option Addr} {c2 c3 c4 d2 d3 d4 : Nat} {w : World} (h : CX w C A2 c2 A3 c3 A4 c4) (k : CX w D B2 d2 B3 d3 B4 d4) (h2 : C.ws.length ≤ 1000) (h3 : C.ks.length ≤ 1000) (h4 : C.ac.length ≤ 1000) :
    Calls Tryd.prog 16 #[.agg #[.int .i64 C.p, .int .i64 C.f, .slice A2 C.ws.length c2, .slice A3 C.ks.length c3, .slice A4 C.ac.length c4], .agg #[.int .i64 D.p, .int .i64 D.f, .slice B2 D.ws.length d2, .slice B3 D.ks.length d3, .slice B4 D.ac.length d4]] w fun e w' => e = .returned (.bool (sB C D)) ∧ Below w.heap.size w w' :=
  empennageref04_Same.calls 5000 C.p C.f A2 c2 C.ws A3 c3 C.ks A4 c4 C.ac D.p D.f B2 d2 D.ws B3 d3 D.ks B4 d4 D.ac _ w h.w h.wl h.k h.kl h.a h.al k.w k.wl k.k k.kl k.a k.al (rsame_f C D h2 h3 h4)
theorem eqR_refl {α : Type} {d : α → α → Bool} (hd : ∀ x, d x x = false) : ∀ xs, eqR d xs xs = true
  | [] => rfl
  | x :: xs => by
    unfold eqR
    rw [if_neg (by rw [hd]; decide)]
    exact eqR_refl hd xs
theorem sB_refl (C : Cfg) : sB C C = true := by
  unfold sB eqL
  rw [if_pos rfl, if_pos rfl, if_pos rfl, if_pos rfl, if_pos rfl, eqR_refl (fun x => by simp [n46]), eqR_refl (fun x => by simp [n57]), eqR_refl (fun x => by simp [nI])]
  rfl
structure LV (w W : World) (x : Int) : Prop where
  b0 : W.heap[w.heap.size]? = some (.cells #[.int .i64 0, .int .i64 0, .int .i64 4] 46 (0, 0))
  b1 : W.heap[w.heap.size + 1]? = some (.cells #[.int .i64 x] 3 (0, 0))
  b2 : W.heap[w.heap.size + 1 + 1]? = some (.cells #[.int .i64 1, .int .i64 4, .slice (some ⟨w.heap.size, 0, none⟩) 1 1, .slice none 0 0, .slice (some ⟨w.heap.size + 1, 0, none⟩) 1 1] 26 (0, 0))
  bel : Below w.heap.size w W
theorem LV.far {w W W' : World} {x : Int} (h : LV w W x) (hb : Below W.heap.size W W') : LV w W' x := ⟨blk_below h.b0 hb, blk_below h.b1 hb, blk_below h.b2 hb, below_step h.bel hb⟩
theorem LV.cx {w W : World} {x : Int} (h : LV w W x) : CX W ⟨1, 4, [⟨0, 0, 4⟩], [], [x]⟩ (some ⟨w.heap.size, 0, none⟩) 1 none 0 (some ⟨w.heap.size + 1, 0, none⟩) 1 := by
  refine ⟨⟨rfl, by simp, fun _ => ⟨_, rfl, fun j p hj => ?_⟩⟩, Nat.le_refl _, Kd.C_nil _ _, Nat.le_refl _, ⟨rfl, by simp, fun _ => ⟨_, rfl, fun j p hj => ?_⟩⟩, Nat.le_refl _⟩
  · rcases j with _ | j
    · simp at hj
      subst hj
      refine ⟨[.int .i64 0, .int .i64 0, .int .i64 4], rfl, k46_mk W ⟨0, 0, 4⟩, fun i u hu => ?_⟩
      show W.cell? ((⟨w.heap.size, 0, none⟩ : Addr).add (0 * 3 + i)) = some u
      rw [show ((⟨w.heap.size, 0, none⟩ : Addr).add (0 * 3 + i)) = ⟨w.heap.size, i, none⟩ by unfold Addr.add; split <;> simp_all]
      rw [blk_cell h.b0 i]
      rw [← hu]
      rcases i with _ | _ | _ | i <;> rfl
    · simp at hj
  · rcases j with _ | j
    · simp at hj
      subst hj
      refine ⟨[.int .i64 x], rfl, rfl, fun i u hu => ?_⟩
      show W.cell? ((⟨w.heap.size + 1, 0, none⟩ : Addr).add (0 * 1 + i)) = some u
      rw [show ((⟨w.heap.size + 1, 0, none⟩ : Addr).add (0 * 1 + i)) = ⟨w.heap.size + 1, i, none⟩ by unfold Addr.add; split <;> simp_all]
      rw [blk_cell h.b1 i]
      rw [← hu]
      rcases i with _ | i <;> rfl
    · simp at hj
end Go.Proofs.YtdebbanloopcgaaDoor.Cf
