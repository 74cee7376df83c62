/- Layer 4 (config): CfE, CfV, CfY, laid into one text by wip/merge.py. -/
import Derived.Test.YtehcgojcmcahnaaDoorCfM1
import Derived.Test.YtehcgojcmcahnaaDoorPConfigSamex3
import Derived.Test.YtehcgojcmcahnaaDoorCfM2
/- Layer 4 (config): whether two configs are the same: the printed texts of config.Same and of the document's Same answer one plain test. -/
set_option linter.unusedVariables false
set_option linter.unusedSimpArgs false
namespace Go.Proofs.YtehcgojcmcahnaaDoor.Cf
open Go.RowKit Go.Proofs.YtehcgojcmcahnaaDoorW.PrintWords Go.Proofs.YtehcgojcmcahnaaDoorW.PrintLast Go.Proofs.YtehcgojcmcahnaaDoorW.PrintMore Go.Proofs.YtehcgojcmcahnaaDoor.Cz Go.Proofs.YtehcgojcmcahnaaDoor.PConfigSame
def n33 (a b : S33) : Bool := !(a.f0 == b.f0) || (!(a.f1 == b.f1) || !(a.f2 == b.f2))
def n35 (a b : S35) : Bool := !(a.f0 == b.f0) || (!(a.f1 == b.f1) || (!(a.f2 == b.f2) || (!(a.f3 == b.f3) || (!(a.f4 == b.f4) || (!(a.f5 == b.f5) || (!(a.f6 == b.f6) || (!(a.f7 == b.f7) || (!(a.f8 == b.f8) || (!(a.f9 == b.f9) || !(a.f10 == b.f10))))))))))
/-- No two differ. -/
def eqR {α : Type} (d : α → α → Bool) : List α → List α → Bool
  | x :: xs, y :: ys => if d x y = true then false else eqR d xs ys
  | _, _ => true
theorem eqR_step {α : Type} (d : α → α → Bool) {xs ys : List α} {j : Nat} (h1 : j < xs.length) (h2 : j < ys.length) : eqR d (xs.drop j) (ys.drop j) = if d xs[j] ys[j] = true then false else eqR d (xs.drop (j + 1)) (ys.drop (j + 1)) := by
  rw [List.drop_eq_getElem_cons h1, List.drop_eq_getElem_cons h2]
  rfl
theorem eqR_end {α : Type} (d : α → α → Bool) {xs ys : List α} {j : Nat} (h1 : xs.length ≤ j) : eqR d (xs.drop j) (ys.drop j) = true := by
  rw [List.drop_of_length_le h1]
  rfl
def eqL {α : Type} (d : α → α → Bool) (xs ys : List α) : Bool := if xs.length = ys.length then eqR d xs ys else false
def nI (a b : Int) : Bool := !(a == b)
def sB (C D : Cfg) : Bool := if C.p = D.p then (if C.f = D.f then (if eqL n33 C.ws D.ws = true then (if eqL n35 C.ks D.ks = true then eqL nI C.ac D.ac else false) else false) else false) else false
theorem wr (j : Nat) (h : j ≤ 100000) : wrap64 ((j : Int) + 1) = ((j + 1 : Nat) : Int) := by unfold wrap64; omega
theorem get33 {l : List S33} {j : Nat} (h : j < l.length) : rd_T33 l (j : Int) = l[j] := by simp [rd_T33, h]
theorem get35 {l : List S35} {j : Nat} (h : j < l.length) : rd_T35 l (j : Int) = l[j] := by simp [rd_T35, h]
theorem getI {l : List Int} {j : Nat} (h : j < l.length) : rd l (j : Int) = l[j] := by simp [rd, h]
theorem winL : ∀ (k j : Nat) (l0 l1 : List S33), l0.length = l1.length → l0.length ≤ 1000 → j ≤ l0.length → l0.length < k + j → api_Window_28.l0 k l0 l1 (l0.length : Int) (j : Int) = some (eqR n33 (l0.drop j) (l1.drop j))
  | 0, j, l0, l1, _, _, _, h => by omega
  | k + 1, j, l0, l1, hl, hm, hj, h => by
    unfold api_Window_28.l0
    by_cases hlt : j < l0.length
    · rw [if_pos (by omega), if_pos (by omega), if_pos (by omega), if_pos (by omega), get33 hlt, get33 (show j < l1.length by omega), wr j (by omega), winL k (j + 1) l0 l1 hl hm (by omega) (by omega), eqR_step n33 hlt (by omega)]
      show (if n33 l0[j] l1[j] = true then _ else _) = _
      split <;> rfl
    · rw [if_neg (by omega), eqR_end _ (by omega)]
theorem chL : ∀ (k j : Nat) (l0 l1 : List S35), l0.length = l1.length → l0.length ≤ 1000 → j ≤ l0.length → l0.length < k + j → api_Channel_29.l0 k l0 l1 (l0.length : Int) (j : Int) = some (eqR n35 (l0.drop j) (l1.drop j))
  | 0, j, l0, l1, _, _, _, h => by omega
  | k + 1, j, l0, l1, hl, hm, hj, h => by
    unfold api_Channel_29.l0
    by_cases hlt : j < l0.length
    · rw [if_pos (by omega), if_pos (by omega), if_pos (by omega), if_pos (by omega), get35 hlt, get35 (show j < l1.length by omega), wr j (by omega), chL k (j + 1) l0 l1 hl hm (by omega) (by omega), eqR_step n35 hlt (by omega)]
      show (if n35 l0[j] l1[j] = true then _ else _) = _
      split <;> rfl
    · rw [if_neg (by omega), eqR_end _ (by omega)]
theorem inL : ∀ (k j : Nat) (l0 l1 : List Int), l0.length = l1.length → l0.length ≤ 1000 → j ≤ l0.length → l0.length < k + j → slices_Equal_int_int.l0 k l0 l1 (l0.length : Int) (j : Int) = some (eqR nI (l0.drop j) (l1.drop j))
  | 0, j, l0, l1, _, _, _, h => by omega
  | k + 1, j, l0, l1, hl, hm, hj, h => by
    unfold slices_Equal_int_int.l0
    by_cases hlt : j < l0.length
    · rw [if_pos (by omega), if_pos (by omega), if_pos (by omega), if_pos (by omega), getI hlt, getI (show j < l1.length by omega), wr j (by omega), inL k (j + 1) l0 l1 hl hm (by omega) (by omega), eqR_step nI hlt (by omega)]
      by_cases he : l0[j] = l1[j]
      · rw [if_pos he, if_neg (by unfold nI; simp [he])]
      · rw [if_neg he, if_pos (by unfold nI; simp [he])]
    · rw [if_neg (by omega), eqR_end _ (by omega)]
theorem win_f (l0 l1 : List S33) (hm : l0.length ≤ 1000) : api_Window_28.f 5000 l0 l1 = some (eqL n33 l0 l1) := by
  unfold api_Window_28.f eqL
  by_cases h : l0.length = l1.length
  · rw [if_pos (by omega), if_pos h, show (0 : Int) = ((0 : Nat) : Int) from rfl, winL 5000 0 l0 l1 h hm (by omega) (by omega)]
    rfl
  · rw [if_neg (by omega), if_neg h]
theorem ch_f (l0 l1 : List S35) (hm : l0.length ≤ 1000) : api_Channel_29.f 5000 l0 l1 = some (eqL n35 l0 l1) := by
  unfold api_Channel_29.f eqL
  by_cases h : l0.length = l1.length
  · rw [if_pos (by omega), if_pos h, show (0 : Int) = ((0 : Nat) : Int) from rfl, chL 5000 0 l0 l1 h hm (by omega) (by omega)]
    rfl
  · rw [if_neg (by omega), if_neg h]
theorem in_f (l0 l1 : List Int) (hm : l0.length ≤ 1000) : slices_Equal_int_int.f 5000 l0 l1 = some (eqL nI l0 l1) := by
  unfold slices_Equal_int_int.f eqL
  by_cases h : l0.length = l1.length
  · rw [if_pos (by omega), if_pos h, show (0 : Int) = ((0 : Nat) : Int) from rfl, inL 5000 0 l0 l1 h hm (by omega) (by omega)]
    rfl
  · rw [if_neg (by omega), if_neg h]
theorem same_f (C D : Cfg) (h2 : C.ws.length ≤ 1000) (h3 : C.ks.length ≤ 1000) (h4 : C.ac.length ≤ 1000) : config_Same.f 5000 C.p C.f C.ws C.ks C.ac D.p D.f D.ws D.ks D.ac = some (sB C D) := by
  unfold config_Same.f sB
  rw [win_f _ _ h2, ch_f _ _ h3, in_f _ _ h4]
  simp only [Option.bind_some]
  repeat' split
  all_goals first | rfl | simp_all
end Go.Proofs.YtehcgojcmcahnaaDoor.Cf

/- Layer 4 (config): the document's example. -/
set_option linter.unusedVariables false
set_option linter.unusedSimpArgs false
namespace Go.Proofs.YtehcgojcmcahnaaDoor.Cf
open Go.RowKit Go.Proofs.YtehcgojcmcahnaaDoorW.PrintWords Go.Proofs.YtehcgojcmcahnaaDoorW.PrintLast Go.Proofs.YtehcgojcmcahnaaDoorW.PrintMore Go.Proofs.YtehcgojcmcahnaaDoor.Cz Go.Proofs.YtehcgojcmcahnaaDoor.PConfigSame
attribute [local go_sem] max2_int min2_int max_two min_two max_three min_three max_four min_four Tryd.underlying26 Tryd.underlying30 Tryd.underlying33
theorem same_any {C D : Cfg} {A2 A3 A4 B2 B3 B4 : Option Addr} {c2 c3 c4 d2 d3 d4 : Nat} {w : World} (h : CX w C A2 c2 A3 c3 A4 c4) (k : CX w D B2 d2 B3 d3 B4 d4) (h2 : C.ws.length ≤ 1000) (h3 : C.ks.length ≤ 1000) (h4 : C.ac.length ≤ 1000) :
    Calls Tryd.prog 13 #[.agg #[.int .i64 C.p, .int .i64 C.f, .slice A2 C.ws.length c2, .slice A3 C.ks.length c3, .slice A4 C.ac.length c4], .agg #[.int .i64 D.p, .int .i64 D.f, .slice B2 D.ws.length d2, .slice B3 D.ks.length d3, .slice B4 D.ac.length d4]] w fun e w' => e = .returned (.bool (sB C D)) ∧ Below w.heap.size w w' :=
  config_Same.calls 5000 C.p C.f A2 c2 C.ws A3 c3 C.ks A4 c4 C.ac D.p D.f B2 d2 D.ws B3 d3 D.ks B4 d4 D.ac _ w h.w h.wl h.k h.kl h.a h.al k.w k.wl k.k k.kl k.a k.al (same_f C D h2 h3 h4)
theorem eqR_refl {α : Type} {d : α → α → Bool} (hd : ∀ x, d x x = false) : ∀ xs, eqR d xs xs = true
  | [] => rfl
  | x :: xs => by
    unfold eqR
    rw [if_neg (by rw [hd]; decide)]
    exact eqR_refl hd xs
theorem sB_refl (C : Cfg) : sB C C = true := by
  unfold sB eqL
  rw [if_pos rfl, if_pos rfl, if_pos rfl, if_pos rfl, if_pos rfl, eqR_refl (fun x => by simp [n33]), eqR_refl (fun x => by simp [n35]), eqR_refl (fun x => by simp [nI])]
  rfl
/-- The example's memory; its action is x. -/
structure LV (w W : World) (x : Int) : Prop where
  b0 : W.heap[w.heap.size]? = some (.cells #[.int .i64 0, .int .i64 0, .int .i64 4] 33 (0, 0))
  b1 : W.heap[w.heap.size + 1]? = some (.cells #[.int .i64 x] 3 (0, 0))
  b2 : W.heap[w.heap.size + 1 + 1]? = some (.cells #[.int .i64 1, .int .i64 4, .slice (some ⟨w.heap.size, 0, none⟩) 1 1, .slice none 0 0, .slice (some ⟨w.heap.size + 1, 0, none⟩) 1 1] 26 (0, 0))
  bel : Below w.heap.size w W
theorem LV.far {w W W' : World} {x : Int} (h : LV w W x) (hb : Below W.heap.size W W') : LV w W' x := ⟨blk_below h.b0 hb, blk_below h.b1 hb, blk_below h.b2 hb, below_step h.bel hb⟩
theorem LV.put {w W : World} {x : Int} (h : LV w W x) (y : Int) : LV w (W.setCell ⟨w.heap.size + 1, 0, none⟩ (.int .i64 y)) y :=
  ⟨blk_far (p := ⟨w.heap.size + 1, 0, none⟩) h.b0 (by simp) _, blk_put h.b1 0 _ rfl, blk_far (p := ⟨w.heap.size + 1, 0, none⟩) h.b2 (by simp) _, below_set h.bel (by omega)⟩
theorem LV.cx {w W : World} {x : Int} (h : LV w W x) : CX W ⟨1, 4, [⟨0, 0, 4⟩], [], [x]⟩ (some ⟨w.heap.size, 0, none⟩) 1 none 0 (some ⟨w.heap.size + 1, 0, none⟩) 1 := by
  refine ⟨⟨rfl, by simp, fun _ => ⟨_, rfl, fun j p hj => ?_⟩⟩, Nat.le_refl _, Kd.C_nil _ _, Nat.le_refl _, ⟨rfl, by simp, fun _ => ⟨_, rfl, fun j p hj => ?_⟩⟩, Nat.le_refl _⟩
  · rcases j with _ | j
    · simp at hj
      subst hj
      refine ⟨[.int .i64 0, .int .i64 0, .int .i64 4], rfl, k33_mk W ⟨0, 0, 4⟩, fun i u hu => ?_⟩
      show W.cell? ((⟨w.heap.size, 0, none⟩ : Addr).add (0 * 3 + i)) = some u
      rw [show ((⟨w.heap.size, 0, none⟩ : Addr).add (0 * 3 + i)) = ⟨w.heap.size, i, none⟩ by unfold Addr.add; split <;> simp_all]
      rw [blk_cell h.b0 i]
      rw [← hu]
      rcases i with _ | _ | _ | i <;> rfl
    · simp at hj
  · rcases j with _ | j
    · simp at hj
      subst hj
      refine ⟨[.int .i64 x], rfl, rfl, fun i u hu => ?_⟩
      show W.cell? ((⟨w.heap.size + 1, 0, none⟩ : Addr).add (0 * 1 + i)) = some u
      rw [show ((⟨w.heap.size + 1, 0, none⟩ : Addr).add (0 * 1 + i)) = ⟨w.heap.size + 1, i, none⟩ by unfold Addr.add; split <;> simp_all]
      rw [blk_cell h.b1 i]
      rw [← hu]
      rcases i with _ | i <;> rfl
    · simp at hj
theorem LV.chk0 {w W : World} (h : LV w W 0) (hg : LG W) : Calls Tryd.prog 12 #[.agg #[.int .i64 1, .int .i64 4, .slice (some ⟨w.heap.size, 0, none⟩) 1 1, .slice none 0 0, .slice (some ⟨w.heap.size + 1, 0, none⟩) 1 1]] W fun e w' => e = .returned (.tuple #[.agg #[.int .i64 0, .int .i64 0], .int .i64 0]) ∧ Below W.heap.size W w' :=
  check_any h.cx hg (by decide) (by decide) (by decide)
theorem LV.chk3 {w W : World} (h : LV w W 3) (hg : LG W) : Calls Tryd.prog 12 #[.agg #[.int .i64 1, .int .i64 4, .slice (some ⟨w.heap.size, 0, none⟩) 1 1, .slice none 0 0, .slice (some ⟨w.heap.size + 1, 0, none⟩) 1 1]] W fun e w' => e = .returned (.tuple #[.agg #[.int .i64 5, .int .i64 0], .int .i64 4]) ∧ Below W.heap.size W w' :=
  check_any h.cx hg (by decide) (by decide) (by decide)
theorem LV.same {w W : World} {x : Int} (h : LV w W x) : Calls Tryd.prog 13 #[.agg #[.int .i64 1, .int .i64 4, .slice (some ⟨w.heap.size, 0, none⟩) 1 1, .slice none 0 0, .slice (some ⟨w.heap.size + 1, 0, none⟩) 1 1], .agg #[.int .i64 1, .int .i64 4, .slice (some ⟨w.heap.size, 0, none⟩) 1 1, .slice none 0 0, .slice (some ⟨w.heap.size + 1, 0, none⟩) 1 1]] W fun e w' => e = .returned (.bool true) ∧ Below W.heap.size W w' := by
  have := same_any h.cx h.cx (by simp) (by simp) (by simp)
  rw [sB_refl] at this
  exact this
set_option maxHeartbeats 8000000 in
set_option maxRecDepth 100000 in
theorem lives_any {w : World} (hg : LG w) : Calls Tryd.prog 8 #[] w fun e w' => e = .returned (.bool true) ∧ Below w.heap.size w w' := by
  have HG := Aside0.mk hg
  clear hg
  go_enter Tryd.func8, Tryd.ntmps8
  go_upto_region 2 with (first | fail)
  have l1 : LV w (((w.alloc (.cells #[.int .i64 0, .int .i64 0, .int .i64 4] 33)).alloc (.cells #[.int .i64 0] 3)).alloc (.cells #[.int .i64 1, .int .i64 4, .slice (some ⟨w.heap.size, 0, none⟩) 1 1, .slice none 0 0, .slice (some ⟨w.heap.size + 1, 0, none⟩) 1 1] 26)) 0 :=
    ⟨blk_alloc (blk_alloc (blk_new _ _) _) _, blk_alloc (by simpa using heap_alloc_new (w.alloc (.cells #[.int .i64 0, .int .i64 0, .int .i64 4] 33)) (.cells #[.int .i64 0] 3)) _, by simpa using heap_alloc_new ((w.alloc (.cells #[.int .i64 0, .int .i64 0, .int .i64 4] 33)).alloc (.cells #[.int .i64 0] 3)) (.cells #[.int .i64 1, .int .i64 4, .slice (some ⟨w.heap.size, 0, none⟩) 1 1, .slice none 0 0, .slice (some ⟨w.heap.size + 1, 0, none⟩) 1 1] 26), below_alloc (below_alloc (below_alloc (Below.refl _ _) _) _) _⟩
  revert l1
  generalize (((w.alloc (.cells #[.int .i64 0, .int .i64 0, .int .i64 4] 33)).alloc (.cells #[.int .i64 0] 3)).alloc (.cells #[.int .i64 1, .int .i64 4, .slice (some ⟨w.heap.size, 0, none⟩) 1 1, .slice none 0 0, .slice (some ⟨w.heap.size + 1, 0, none⟩) 1 1] 26)) = W1
  intro l1
  have l10 := (blk_cell l1.b2 0).trans (show _ = some (.int .i64 1) from rfl)
  have l11 := (blk_cell l1.b2 1).trans (show _ = some (.int .i64 4) from rfl)
  have l12 := (blk_cell l1.b2 2).trans (show _ = some (.slice (some ⟨w.heap.size, 0, none⟩) 1 1) from rfl)
  have l13 := (blk_cell l1.b2 3).trans (show _ = some (.slice none 0 0) from rfl)
  have l14 := (blk_cell l1.b2 4).trans (show _ = some (.slice (some ⟨w.heap.size + 1, 0, none⟩) 1 1) from rfl)
  have L1 := Aside0.mk l1
  clear l1
  go_upto_region 3 with (first | (go_at_call 12; refine (L1.out.chk0 (HG.out.below L1.out.bel)).mono ?_; rintro e w2 ⟨rfl, hb⟩; have L2 := Aside0.mk (L1.out.far hb); clear hb))
  have l2 := L2.out.far (below_alloc (Below.refl w2.heap.size w2) (.cells #[.int .i64 0, .int .i64 0] 30))
  clear L1 L2 l10 l11 l12 l13 l14
  revert l2
  generalize (w2.alloc (.cells #[.int .i64 0, .int .i64 0] 30)) = W2
  intro l2
  have l24 := (blk_cell l2.b2 4).trans (show _ = some (.slice (some ⟨w.heap.size + 1, 0, none⟩) 1 1) from rfl)
  have a0 := (blk_cell l2.b1 0).trans (show _ = some (.int .i64 0) from rfl)
  have a1 := blk_frozen l2.b1 0
  have L2 := Aside0.mk l2
  clear l2
  go_upto_region 4 with (first | fail)
  have l3 := L2.out.put 3
  clear L2 l24 a0 a1
  revert l3
  generalize (W2.setCell ⟨w.heap.size + 1, 0, none⟩ (.int .i64 3)) = W3
  intro l3
  have l30 := (blk_cell l3.b2 0).trans (show _ = some (.int .i64 1) from rfl)
  have l31 := (blk_cell l3.b2 1).trans (show _ = some (.int .i64 4) from rfl)
  have l32 := (blk_cell l3.b2 2).trans (show _ = some (.slice (some ⟨w.heap.size, 0, none⟩) 1 1) from rfl)
  have l33 := (blk_cell l3.b2 3).trans (show _ = some (.slice none 0 0) from rfl)
  have l34 := (blk_cell l3.b2 4).trans (show _ = some (.slice (some ⟨w.heap.size + 1, 0, none⟩) 1 1) from rfl)
  have L3 := Aside0.mk l3
  clear l3
  go_upto_region 5 with (first | (go_at_call 12; refine (L3.out.chk3 (HG.out.below L3.out.bel)).mono ?_; rintro e w4 ⟨rfl, hb⟩; have L4 := Aside0.mk (L3.out.far hb); clear hb))
  have l5 := L4.out.far (below_alloc (Below.refl w4.heap.size w4) (.cells #[.int .i64 5, .int .i64 0] 30))
  clear L3 L4 l30 l31 l32 l33 l34
  have l50 := (blk_cell l5.b2 0).trans (show _ = some (.int .i64 1) from rfl)
  have l51 := (blk_cell l5.b2 1).trans (show _ = some (.int .i64 4) from rfl)
  have l52 := (blk_cell l5.b2 2).trans (show _ = some (.slice (some ⟨w.heap.size, 0, none⟩) 1 1) from rfl)
  have l53 := (blk_cell l5.b2 3).trans (show _ = some (.slice none 0 0) from rfl)
  have l54 := (blk_cell l5.b2 4).trans (show _ = some (.slice (some ⟨w.heap.size + 1, 0, none⟩) 1 1) from rfl)
  have L5 := Aside0.mk l5
  clear l5
  go_wp2_with (first | (go_at_call 13; refine L5.out.same.mono ?_; rintro e w6 ⟨rfl, hb⟩; have HB6 := Aside0.mk (below_step L5.out.bel hb); clear hb))
  go_ret
  exact ⟨rfl, HB6.out⟩
end Go.Proofs.YtehcgojcmcahnaaDoor.Cf

/- Layer 4 (config): a clone's rows that are turned number by number. -/
set_option linter.unusedVariables false
set_option linter.unusedSimpArgs false
namespace Go.Proofs.YtehcgojcmcahnaaDoor.Cf
open Go.RowKit Go.Proofs.YtehcgojcmcahnaaDoorW.PrintWords Go.Proofs.YtehcgojcmcahnaaDoorW.PrintLast Go.Proofs.YtehcgojcmcahnaaDoorW.PrintMore Go.Proofs.YtehcgojcmcahnaaDoor.Cz Go.Proofs.YtehcgojcmcahnaaDoor.PConfigSame
theorem far5 {W : World} {g q : Nat} {o : Array Value} {T : TypeId} {v0 v1 v2 v3 v4 : Value} (h : W.heap[q]? = some (.cells o T (0, 0))) (hne : q ≠ g) :
    (((((W.setCell ⟨g, 0, none⟩ v0).setCell ⟨g, 1, none⟩ v1).setCell ⟨g, 2, none⟩ v2).setCell ⟨g, 3, none⟩ v3).setCell ⟨g, 4, none⟩ v4).heap[q]? = some (.cells o T (0, 0)) :=
  blk_far (p := ⟨g, 4, none⟩) (blk_far (p := ⟨g, 3, none⟩) (blk_far (p := ⟨g, 2, none⟩) (blk_far (p := ⟨g, 1, none⟩) (blk_far (p := ⟨g, 0, none⟩) h hne v0) hne v1) hne v2) hne v3) hne v4
theorem put5 {W : World} {g : Nat} {a0 a1 a2 a3 a4 v0 v1 v2 v3 v4 : Value} {T : TypeId} (h : W.heap[g]? = some (.cells #[a0, a1, a2, a3, a4] T (0, 0))) :
    (((((W.setCell ⟨g, 0, none⟩ v0).setCell ⟨g, 1, none⟩ v1).setCell ⟨g, 2, none⟩ v2).setCell ⟨g, 3, none⟩ v3).setCell ⟨g, 4, none⟩ v4).heap[g]? = some (.cells #[v0, v1, v2, v3, v4] T (0, 0)) :=
  blk_put (blk_put (blk_put (blk_put (blk_put h 0 v0 rfl) 1 v1 rfl) 2 v2 rfl) 3 v3 rfl) 4 v4 rfl
theorem bel5 {w W : World} {g : Nat} {v0 v1 v2 v3 v4 : Value} (h : Below w.heap.size w W) (hg : w.heap.size ≤ g) :
    Below w.heap.size w (((((W.setCell ⟨g, 0, none⟩ v0).setCell ⟨g, 1, none⟩ v1).setCell ⟨g, 2, none⟩ v2).setCell ⟨g, 3, none⟩ v3).setCell ⟨g, 4, none⟩ v4) :=
  below_set (below_set (below_set (below_set (below_set h hg) hg) hg) hg) hg
/-- m numbers in a block of one's own, of type T. -/
def YB (W0 W : World) (A : Option Addr) (m : Nat) (T : TypeId) : Prop :=
  m = 0 ∨ ∃ g, A = some ⟨g, 0, none⟩ ∧ W0.heap.size ≤ g ∧ ∃ cur : Array Value, W.heap[g]? = some (.cells cur T (0, 0)) ∧ ∀ j, j < m → ∃ z, cur[j]? = some (.int .i64 z)
theorem YB.at_ {W0 W : World} {A : Option Addr} {m T : Nat} (h : YB W0 W A m T) {j : Nat} (hj : j < m) : ∃ g z, A = some ⟨g, 0, none⟩ ∧ W0.heap.size ≤ g ∧ W.cell? ⟨g, j, none⟩ = some (.int .i64 z) ∧ W.frozen? ⟨g, j, none⟩ = false ∧ ∃ cur, W.heap[g]? = some (.cells cur T (0, 0)) := by
  rcases h with h | ⟨g, rfl, hg, cur, hc, hz⟩
  · omega
  · obtain ⟨z, hz⟩ := hz j hj
    exact ⟨g, z, rfl, hg, (blk_cell hc j).trans hz, blk_frozen hc j, cur, hc⟩
theorem YB.put {W0 W : World} {g m T : Nat} (h : YB W0 W (some ⟨g, 0, none⟩) m T) (j : Nat) (z : Int) : YB W0 (W.setCell ⟨g, j, none⟩ (.int .i64 z)) (some ⟨g, 0, none⟩) m T := by
  rcases h with h | ⟨g', e, hg, cur, hc, hz⟩
  · exact .inl h
  · cases e
    refine .inr ⟨g, rfl, hg, _, blk_put hc j _ rfl, fun i hi => ?_⟩
    obtain ⟨y, hy⟩ := hz i hi
    by_cases hij : j = i
    · subst hij
      have : j < cur.size := (Array.getElem?_eq_some_iff.1 hy).1
      exact ⟨z, by simp [this]⟩
    · exact ⟨y, by rw [Array.getElem?_setIfInBounds_ne hij]; exact hy⟩
theorem YB.far {W0 W : World} {A : Option Addr} {m T g' T' : Nat} {cs : Array Value} (h : YB W0 W A m T) (hb : W.heap[g']? = some (.cells cs T' (0, 0))) (hne : T ≠ T') (j : Nat) (v : Value) : YB W0 (W.setCell ⟨g', j, none⟩ v) A m T := by
  rcases h with h | ⟨g, rfl, hg, cur, hc, hz⟩
  · exact .inl h
  · exact .inr ⟨g, rfl, hg, cur, blk_far (p := ⟨g', j, none⟩) hc (blk_ne hc hb hne) _, hz⟩
theorem YB.below {W0 W W' : World} {A : Option Addr} {m T : Nat} (h : YB W0 W A m T) (hb : Below W.heap.size W W') : YB W0 W' A m T := by
  rcases h with h | ⟨g, rfl, hg, cur, hc, hz⟩
  · exact .inl h
  · exact .inr ⟨g, rfl, hg, cur, blk_below hc hb, hz⟩
theorem yb_of {α : Type} {d : Kd α} {T : TypeId} {w0 W : World} {A : Option Addr} {n c : Nat} {xs : List α} (h : OK d T w0 W (.slice A n c) xs) (hs : 0 < d.sz)
    (hk : ∀ x cs, d.K W x cs → ∀ i, i < d.sz → ∃ z, cs[i]? = some (.int .i64 z)) : YB w0 W A (xs.length * d.sz) T := by
  obtain ⟨hc, hn, hl⟩ := h.ci
  obtain ⟨inner, ho⟩ := Kd.R_own h.r
  obtain ⟨h1, h2⟩ := ho
  rcases h2 with ⟨e, h3⟩ | ⟨g, cap, cur, e, hg, hcur, _⟩
  · exact .inl (by injection e with e1 e2; subst e2; rw [← hn]; simp)
  · injection e with e1 e2 e3
    subst e1
    refine .inr ⟨g, rfl, hg, cur, hcur, fun j hj => ?_⟩
    have hq : j / d.sz < xs.length := Nat.div_lt_of_lt_mul (by rw [Nat.mul_comm]; exact hj)
    obtain ⟨_, _, h5⟩ := hc
    obtain ⟨ad, e5, h6⟩ := h5 (Nat.lt_of_le_of_lt (Nat.zero_le _) hq)
    cases e5
    obtain ⟨cs, _, hK, hcell⟩ := h6 (j / d.sz) xs[j / d.sz] (List.getElem?_eq_getElem hq)
    obtain ⟨z, hz⟩ := hk _ _ hK (j % d.sz) (Nat.mod_lt _ hs)
    have h7 := hcell _ _ hz
    have e7 : ((⟨g, 0, none⟩ : Addr).add (j / d.sz * d.sz + j % d.sz)) = ⟨g, j, none⟩ := by
      have : j / d.sz * d.sz + j % d.sz = j := by rw [Nat.mul_comm]; exact Nat.div_add_mod j d.sz
      rw [this]
      unfold Addr.add
      split <;> simp_all
    rw [e7, blk_cell hcur j] at h7
    exact ⟨z, h7⟩
theorem yb33 {w0 W : World} {A : Option Addr} {n c : Nat} {xs : List S33} (h : OK k33 33 w0 W (.slice A n c) xs) : YB w0 W A (xs.length * 3) 33 :=
  yb_of h (by decide) (fun x cs hK i hi => by
    rw [k33_open hK]
    have : i < 3 := hi
    rcases i with _ | _ | _ | i
    · exact ⟨_, rfl⟩
    · exact ⟨_, rfl⟩
    · exact ⟨_, rfl⟩
    · omega)
theorem yb35 {w0 W : World} {A : Option Addr} {n c : Nat} {xs : List S35} (h : OK k35 35 w0 W (.slice A n c) xs) : YB w0 W A (xs.length * 11) 35 :=
  yb_of h (by decide) (fun x cs hK i hi => by
    rw [k35_open hK]
    have : i < 11 := hi
    rcases i with _ | _ | _ | _ | _ | _ | _ | _ | _ | _ | _ | i
    all_goals first | exact ⟨_, rfl⟩ | omega)
theorem yb3 {w0 W : World} {A : Option Addr} {n c : Nat} {xs : List Int} (h : OK (Kd.int .i64) 3 w0 W (.slice A n c) xs) : YB w0 W A (xs.length * 1) 3 :=
  yb_of h (by decide) (fun x cs hK i hi => by
    have : cs = [.int .i64 x] := hK
    rw [this]
    have : i < 1 := hi
    rcases i with _ | i
    · exact ⟨_, rfl⟩
    · omega)
theorem CO.cx {w0 W : World} {C : Cfg} {B2 B3 B4 : Option Addr} {n2 n3 n4 d2 d3 d4 : Nat} (h : CO w0 W C.ws C.ks C.ac (.slice B2 n2 d2) (.slice B3 n3 d3) (.slice B4 n4 d4)) : CX W C B2 d2 B3 d3 B4 d4 :=
  ⟨h.o2.ci.1, h.o2.ci.2.2, h.o3.ci.1, h.o3.ci.2.2, h.o4.ci.1, h.o4.ci.2.2⟩
/-- Behind the second clone: what is turned, and what lies still. -/
structure YV (W0 W : World) (g6 : Nat) (cfg : Array Value) (A2 A3 A4 : Option Addr) (m2 m3 m4 : Nat) : Prop where
  bel : Below W0.heap.size W0 W
  b6 : W.heap[g6]? = some (.cells cfg 26 (0, 0))
  y2 : YB W0 W A2 m2 33
  y3 : YB W0 W A3 m3 35
  y4 : YB W0 W A4 m4 3
section
variable {W0 W : World} {g6 : Nat} {cfg : Array Value} {A2 A3 A4 : Option Addr} {m2 m3 m4 g : Nat} {cur : Array Value}
theorem YV.put2 (h : YV W0 W g6 cfg (some ⟨g, 0, none⟩) A3 A4 m2 m3 m4) (hc : W.heap[g]? = some (.cells cur 33 (0, 0))) (hg : W0.heap.size ≤ g) (j : Nat) (z : Int) : YV W0 (W.setCell ⟨g, j, none⟩ (.int .i64 z)) g6 cfg (some ⟨g, 0, none⟩) A3 A4 m2 m3 m4 :=
  ⟨below_set h.bel hg, blk_far (p := ⟨g, j, none⟩) h.b6 (blk_ne h.b6 hc (by decide)) _, h.y2.put j z, h.y3.far hc (by decide) j _, h.y4.far hc (by decide) j _⟩
theorem YV.put3 (h : YV W0 W g6 cfg A2 (some ⟨g, 0, none⟩) A4 m2 m3 m4) (hc : W.heap[g]? = some (.cells cur 35 (0, 0))) (hg : W0.heap.size ≤ g) (j : Nat) (z : Int) : YV W0 (W.setCell ⟨g, j, none⟩ (.int .i64 z)) g6 cfg A2 (some ⟨g, 0, none⟩) A4 m2 m3 m4 :=
  ⟨below_set h.bel hg, blk_far (p := ⟨g, j, none⟩) h.b6 (blk_ne h.b6 hc (by decide)) _, h.y2.far hc (by decide) j _, h.y3.put j z, h.y4.far hc (by decide) j _⟩
theorem YV.put4 (h : YV W0 W g6 cfg A2 A3 (some ⟨g, 0, none⟩) m2 m3 m4) (hc : W.heap[g]? = some (.cells cur 3 (0, 0))) (hg : W0.heap.size ≤ g) (j : Nat) (z : Int) : YV W0 (W.setCell ⟨g, j, none⟩ (.int .i64 z)) g6 cfg A2 A3 (some ⟨g, 0, none⟩) m2 m3 m4 :=
  ⟨below_set h.bel hg, blk_far (p := ⟨g, j, none⟩) h.b6 (blk_ne h.b6 hc (by decide)) _, h.y2.far hc (by decide) j _, h.y3.far hc (by decide) j _, h.y4.put j z⟩
end
end Go.Proofs.YtehcgojcmcahnaaDoor.Cf
