/- Layer 4 (config): whether two configs are the same: the printed texts of config.Same and of the document's Same answer one plain test. -/
import Derived.Test.YtehcgojcmcahnaaDoorCfA
import Derived.Test.YtehcgojcmcahnaaDoorPConfigSamex4
set_option linter.unusedVariables false
set_option linter.unusedSimpArgs false
namespace Go.Proofs.YtehcgojcmcahnaaDoor.Cf
open Go.RowKit Go.Proofs.YtehcgojcmcahnaaDoorW.PrintWords Go.Proofs.YtehcgojcmcahnaaDoorW.PrintLast Go.Proofs.YtehcgojcmcahnaaDoorW.PrintMore Go.Proofs.YtehcgojcmcahnaaDoor.Cz Go.Proofs.YtehcgojcmcahnaaDoor.PConfigSame
def n33 (a b : S33) : Bool := !(a.f0 == b.f0) || (!(a.f1 == b.f1) || !(a.f2 == b.f2))
def n35 (a b : S35) : Bool := !(a.f0 == b.f0) || (!(a.f1 == b.f1) || (!(a.f2 == b.f2) || (!(a.f3 == b.f3) || (!(a.f4 == b.f4) || (!(a.f5 == b.f5) || (!(a.f6 == b.f6) || (!(a.f7 == b.f7) || (!(a.f8 == b.f8) || (!(a.f9 == b.f9) || !(a.f10 == b.f10))))))))))
/-- No two differ. -/
def eqR {α : Type} (d : α → α → Bool) : List α → List α → Bool
  | x :: xs, y :: ys => if d x y = true then false else eqR d xs ys
  | _, _ => true
theorem eqR_step {α : Type} (d : α → α → Bool) {xs ys : List α} {j : Nat} (h1 : j < xs.length) (h2 : j < ys.length) : eqR d (xs.drop j) (ys.drop j) = if d xs[j] ys[j] = true then false else eqR d (xs.drop (j + 1)) (ys.drop (j + 1)) := by
  rw [List.drop_eq_getElem_cons h1, List.drop_eq_getElem_cons h2]
  rfl
theorem eqR_end {α : Type} (d : α → α → Bool) {xs ys : List α} {j : Nat} (h1 : xs.length ≤ j) : eqR d (xs.drop j) (ys.drop j) = true := by
  rw [List.drop_of_length_le h1]
  rfl
def eqL {α : Type} (d : α → α → Bool) (xs ys : List α) : Bool := if xs.length = ys.length then eqR d xs ys else false
def nI (a b : Int) : Bool := !(a == b)
def sB (C D : Cfg) : Bool := if C.p = D.p then (if C.f = D.f then (if eqL n33 C.ws D.ws = true then (if eqL n35 C.ks D.ks = true then eqL nI C.ac D.ac else false) else false) else false) else false
theorem wr (j : Nat) (h : j ≤ 100000) : wrap64 ((j : Int) + 1) = ((j + 1 : Nat) : Int) := by unfold wrap64; omega
theorem get33 {l : List S33} {j : Nat} (h : j < l.length) : rd_T33 l (j : Int) = l[j] := by simp [rd_T33, h]
theorem get35 {l : List S35} {j : Nat} (h : j < l.length) : rd_T35 l (j : Int) = l[j] := by simp [rd_T35, h]
theorem getI {l : List Int} {j : Nat} (h : j < l.length) : rd l (j : Int) = l[j] := by simp [rd, h]
theorem winL : ∀ (k j : Nat) (l0 l1 : List S33), l0.length = l1.length → l0.length ≤ 1000 → j ≤ l0.length → l0.length < k + j → api_Window_28.l0 k l0 l1 (l0.length : Int) (j : Int) = some (eqR n33 (l0.drop j) (l1.drop j))
  | 0, j, l0, l1, _, _, _, h => by omega
  | k + 1, j, l0, l1, hl, hm, hj, h => by
    unfold api_Window_28.l0
    by_cases hlt : j < l0.length
    · rw [if_pos (by omega), if_pos (by omega), if_pos (by omega), if_pos (by omega), get33 hlt, get33 (show j < l1.length by omega), wr j (by omega), winL k (j + 1) l0 l1 hl hm (by omega) (by omega), eqR_step n33 hlt (by omega)]
      show (if n33 l0[j] l1[j] = true then _ else _) = _
      split <;> rfl
    · rw [if_neg (by omega), eqR_end _ (by omega)]
theorem chL : ∀ (k j : Nat) (l0 l1 : List S35), l0.length = l1.length → l0.length ≤ 1000 → j ≤ l0.length → l0.length < k + j → api_Channel_29.l0 k l0 l1 (l0.length : Int) (j : Int) = some (eqR n35 (l0.drop j) (l1.drop j))
  | 0, j, l0, l1, _, _, _, h => by omega
  | k + 1, j, l0, l1, hl, hm, hj, h => by
    unfold api_Channel_29.l0
    by_cases hlt : j < l0.length
    · rw [if_pos (by omega), if_pos (by omega), if_pos (by omega), if_pos (by omega), get35 hlt, get35 (show j < l1.length by omega), wr j (by omega), chL k (j + 1) l0 l1 hl hm (by omega) (by omega), eqR_step n35 hlt (by omega)]
      show (if n35 l0[j] l1[j] = true then _ else _) = _
      split <;> rfl
    · rw [if_neg (by omega), eqR_end _ (by omega)]
theorem inL : ∀ (k j : Nat) (l0 l1 : List Int), l0.length = l1.length → l0.length ≤ 1000 → j ≤ l0.length → l0.length < k + j → slices_Equal_int_int.l0 k l0 l1 (l0.length : Int) (j : Int) = some (eqR nI (l0.drop j) (l1.drop j))
  | 0, j, l0, l1, _, _, _, h => by omega
  | k + 1, j, l0, l1, hl, hm, hj, h => by
    unfold slices_Equal_int_int.l0
    by_cases hlt : j < l0.length
    · rw [if_pos (by omega), if_pos (by omega), if_pos (by omega), if_pos (by omega), getI hlt, getI (show j < l1.length by omega), wr j (by omega), inL k (j + 1) l0 l1 hl hm (by omega) (by omega), eqR_step nI hlt (by omega)]
      by_cases he : l0[j] = l1[j]
      · rw [if_pos he, if_neg (by unfold nI; simp [he])]
      · rw [if_neg he, if_pos (by unfold nI; simp [he])]
    · rw [if_neg (by omega), eqR_end _ (by omega)]
theorem inR : ∀ (k j : Nat) (l0 l1 : List Int), l0.length = l1.length → l0.length ≤ 1000 → j ≤ l0.length → l0.length < k + j → empennageref01_Same.l0 k l0 l1 (j : Int) = some (eqR nI (l0.drop j) (l1.drop j))
  | 0, j, l0, l1, _, _, _, h => by omega
  | k + 1, j, l0, l1, hl, hm, hj, h => by
    unfold empennageref01_Same.l0
    by_cases hlt : j < l0.length
    · rw [if_pos (by omega), if_pos (by omega), if_pos (by omega), getI hlt, getI (show j < l1.length by omega), wr j (by omega), inR k (j + 1) l0 l1 hl hm (by omega) (by omega), eqR_step nI hlt (by omega)]
      by_cases he : l0[j] = l1[j]
      · rw [if_pos he, if_neg (by unfold nI; simp [he])]
      · rw [if_neg he, if_pos (by unfold nI; simp [he])]
    · rw [if_neg (by omega), eqR_end _ (by omega)]
theorem win_f (l0 l1 : List S33) (hm : l0.length ≤ 1000) : api_Window_28.f 5000 l0 l1 = some (eqL n33 l0 l1) := by
  unfold api_Window_28.f eqL
  by_cases h : l0.length = l1.length
  · rw [if_pos (by omega), if_pos h, show (0 : Int) = ((0 : Nat) : Int) from rfl, winL 5000 0 l0 l1 h hm (by omega) (by omega)]
    rfl
  · rw [if_neg (by omega), if_neg h]
theorem ch_f (l0 l1 : List S35) (hm : l0.length ≤ 1000) : api_Channel_29.f 5000 l0 l1 = some (eqL n35 l0 l1) := by
  unfold api_Channel_29.f eqL
  by_cases h : l0.length = l1.length
  · rw [if_pos (by omega), if_pos h, show (0 : Int) = ((0 : Nat) : Int) from rfl, chL 5000 0 l0 l1 h hm (by omega) (by omega)]
    rfl
  · rw [if_neg (by omega), if_neg h]
theorem in_f (l0 l1 : List Int) (hm : l0.length ≤ 1000) : slices_Equal_int_int.f 5000 l0 l1 = some (eqL nI l0 l1) := by
  unfold slices_Equal_int_int.f eqL
  by_cases h : l0.length = l1.length
  · rw [if_pos (by omega), if_pos h, show (0 : Int) = ((0 : Nat) : Int) from rfl, inL 5000 0 l0 l1 h hm (by omega) (by omega)]
    rfl
  · rw [if_neg (by omega), if_neg h]
theorem ir_f (l0 l1 : List Int) (hm : l0.length ≤ 1000) : empennageref01_Same.f 5000 l0 l1 = some (eqL nI l0 l1) := by
  unfold empennageref01_Same.f eqL
  by_cases h : l0.length = l1.length
  · rw [if_pos (by omega), if_pos h, show (0 : Int) = ((0 : Nat) : Int) from rfl, inR 5000 0 l0 l1 h hm (by omega) (by omega)]
    rfl
  · rw [if_neg (by omega), if_neg h]
theorem same_f (C D : Cfg) (h2 : C.ws.length ≤ 1000) (h3 : C.ks.length ≤ 1000) (h4 : C.ac.length ≤ 1000) : config_Same.f 5000 C.p C.f C.ws C.ks C.ac D.p D.f D.ws D.ks D.ac = some (sB C D) := by
  unfold config_Same.f sB
  rw [win_f _ _ h2, ch_f _ _ h3, in_f _ _ h4]
  simp only [Option.bind_some]
  repeat' split
  all_goals first | rfl | simp_all
theorem rc_l1 : ∀ (k j : Nat) (p f p' f' : Int) (w0 w1 : List S33) (l0 l1 : List S35) (a0 a1 : List Int), l0.length = l1.length → l0.length ≤ 1000 → j ≤ l0.length → l0.length < k + j → empennageref04_Same.l1 k (j : Int) p f w0 l0 a0 p' f' w1 l1 a1 = some (eqR n35 (l0.drop j) (l1.drop j))
  | 0, j, _, _, _, _, _, _, _, _, _, _, _, _, _, h => by omega
  | k + 1, j, p, f, p', f', w0, w1, l0, l1, a0, a1, hl, hm, hj, h => by
    unfold empennageref04_Same.l1
    by_cases hlt : j < l0.length
    · rw [if_pos (by omega), if_pos (by omega), if_pos (by omega), get35 hlt, get35 (show j < l1.length by omega), wr j (by omega), rc_l1 k (j + 1) p f p' f' w0 w1 l0 l1 a0 a1 hl hm (by omega) (by omega), eqR_step n35 hlt (by omega)]
      show (if n35 l0[j] l1[j] = true then _ else _) = _
      split <;> rfl
    · rw [if_neg (by omega), eqR_end _ (by omega)]
theorem rc_l0 : ∀ (k j : Nat) (p f p' f' : Int) (w0 w1 : List S33) (l0 l1 : List S35) (a0 a1 : List Int), w0.length = w1.length → w0.length ≤ 1000 → l0.length = l1.length → l0.length ≤ 1000 → j ≤ w0.length → w0.length + l0.length + 2 < k + j → empennageref04_Same.l0 k (j : Int) p f w0 l0 a0 p' f' w1 l1 a1 = some (eqR n33 (w0.drop j) (w1.drop j) && eqR n35 l0 l1)
  | 0, j, _, _, _, _, _, _, _, _, _, _, _, _, _, _, _, h => by omega
  | k + 1, j, p, f, p', f', w0, w1, l0, l1, a0, a1, hl, hm, hl2, hm2, hj, h => by
    unfold empennageref04_Same.l0
    by_cases hlt : j < w0.length
    · rw [if_pos (by omega), if_pos (by omega), if_pos (by omega), get33 hlt, get33 (show j < w1.length by omega), wr j (by omega), rc_l0 k (j + 1) p f p' f' w0 w1 l0 l1 a0 a1 hl hm hl2 hm2 (by omega) (by omega), eqR_step n33 hlt (by omega)]
      show (if n33 w0[j] w1[j] = true then _ else _) = _
      split
      · rfl
      · rfl
    · rw [if_neg (by omega), eqR_end _ (by omega), show (0 : Int) = ((0 : Nat) : Int) from rfl, rc_l1 k 0 p f p' f' w0 w1 l0 l1 a0 a1 hl2 hm2 (by omega) (by omega)]
      rfl
theorem j0_eq (k : Nat) (b : Bool) (p f : Int) (w0 : List S33) (l0 : List S35) (a0 : List Int) (p' f' : Int) (w1 : List S33) (l1 : List S35) (a1 : List Int) : empennageref04_Same.j0 (k + 1) b p f w0 l0 a0 p' f' w1 l1 a1 = if b = true then some false else empennageref04_Same.l0 k 0 p f w0 l0 a0 p' f' w1 l1 a1 := by
  rw [empennageref04_Same.j0]
theorem rsame_f (C D : Cfg) (h2 : C.ws.length ≤ 1000) (h3 : C.ks.length ≤ 1000) (h4 : C.ac.length ≤ 1000) : empennageref04_Same.f 5000 C.p C.f C.ws C.ks C.ac D.p D.f D.ws D.ks D.ac = some (sB C D) := by
  unfold empennageref04_Same.f sB
  have hj : ∀ b : Bool, b = true → empennageref04_Same.j0 5000 b C.p C.f C.ws C.ks C.ac D.p D.f D.ws D.ks D.ac = some false := fun b hb => by
    exact (j0_eq 4999 b _ _ _ _ _ _ _ _ _ _).trans (if_pos hb)
  rw [ir_f _ _ h4]
  by_cases e1 : C.p = D.p
  · rw [if_pos e1, if_pos e1]
    by_cases e2 : C.f = D.f
    · rw [if_pos e2, if_pos e2]
      by_cases e3 : C.ws.length = D.ws.length
      · rw [if_pos (by omega)]
        by_cases e4 : C.ks.length = D.ks.length
        · rw [if_pos (by omega)]
          simp only [Option.bind_some]
          rw [show empennageref04_Same.j0 5000 (!eqL nI C.ac D.ac) C.p C.f C.ws C.ks C.ac D.p D.f D.ws D.ks D.ac = _ from j0_eq 4999 _ _ _ _ _ _ _ _ _ _ _]
          rw [show (0 : Int) = ((0 : Nat) : Int) from rfl, rc_l0 4999 0 C.p C.f D.p D.f C.ws D.ws C.ks D.ks C.ac D.ac e3 h2 e4 h3 (by omega) (by omega)]
          unfold eqL
          rw [if_pos e3, if_pos e4]
          simp only [List.drop_zero]
          cases eqR n33 C.ws D.ws <;> cases eqR n35 C.ks D.ks <;> simp <;> (by_cases e5 : C.ac.length = D.ac.length <;> simp [e5] <;> cases eqR nI C.ac D.ac <;> simp)
        · rw [if_neg (by omega), hj _ rfl]
          unfold eqL
          rw [if_neg e4]
          simp
      · rw [if_neg (by omega), hj _ rfl]
        unfold eqL
        rw [if_neg e3]
        simp
    · rw [if_neg e2, if_neg e2, hj _ rfl]
  · rw [if_neg e1, if_neg e1, hj _ rfl]
end Go.Proofs.YtehcgojcmcahnaaDoor.Cf
