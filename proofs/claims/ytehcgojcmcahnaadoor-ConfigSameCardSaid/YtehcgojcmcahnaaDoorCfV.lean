/- Layer 4 (config): the document's example. -/
import Derived.Test.YtehcgojcmcahnaaDoorCfG
import Derived.Test.YtehcgojcmcahnaaDoorCfE
set_option linter.unusedVariables false
set_option linter.unusedSimpArgs false
namespace Go.Proofs.YtehcgojcmcahnaaDoor.Cf
open Go.RowKit Go.Proofs.YtehcgojcmcahnaaDoorW.PrintWords Go.Proofs.YtehcgojcmcahnaaDoorW.PrintLast Go.Proofs.YtehcgojcmcahnaaDoorW.PrintMore Go.Proofs.YtehcgojcmcahnaaDoor.Cz Go.Proofs.YtehcgojcmcahnaaDoor.PConfigSame
attribute [local go_sem] max2_int min2_int max_two min_two max_three min_three max_four min_four Tryd.underlying26 Tryd.underlying30 Tryd.underlying33
theorem same_any {C D : Cfg} {A2 A3 A4 B2 B3 B4 : Option Addr} {c2 c3 c4 d2 d3 d4 : Nat} {w : World} (h : CX w C A2 c2 A3 c3 A4 c4) (k : CX w D B2 d2 B3 d3 B4 d4) (h2 : C.ws.length ≤ 1000) (h3 : C.ks.length ≤ 1000) (h4 : C.ac.length ≤ 1000) :
    Calls Tryd.prog 13 #[.agg #[.int .i64 C.p, .int .i64 C.f, .slice A2 C.ws.length c2, .slice A3 C.ks.length c3, .slice A4 C.ac.length c4], .agg #[.int .i64 D.p, .int .i64 D.f, .slice B2 D.ws.length d2, .slice B3 D.ks.length d3, .slice B4 D.ac.length d4]] w fun e w' => e = .returned (.bool (sB C D)) ∧ Below w.heap.size w w' :=
  config_Same.calls 5000 C.p C.f A2 c2 C.ws A3 c3 C.ks A4 c4 C.ac D.p D.f B2 d2 D.ws B3 d3 D.ks B4 d4 D.ac _ w h.w h.wl h.k h.kl h.a h.al k.w k.wl k.k k.kl k.a k.al (same_f C D h2 h3 h4)
theorem rsame_any {C D : Cfg} {A2 A3 A4 B2 B3 B4 : Option Addr} {c2 c3 c4 d2 d3 d4 : Nat} {w : World} (h : CX w C A2 c2 A3 c3 A4 c4) (k : CX w D B2 d2 B3 d3 B4 d4) (h2 : C.ws.length ≤ 1000) (h3 : C.ks.length ≤ 1000) (h4 : C.ac.length ≤ 1000) :
    Calls Tryd.prog 14 #[.agg #[.int .i64 C.p, .int .i64 C.f, .slice A2 C.ws.length c2, .slice A3 C.ks.length c3, .slice A4 C.ac.length c4], .agg #[.int .i64 D.p, .int .i64 D.f, .slice B2 D.ws.length d2, .slice B3 D.ks.length d3, .slice B4 D.ac.length d4]] w fun e w' => e = .returned (.bool (sB C D)) ∧ Below w.heap.size w w' :=
  empennageref04_Same.calls 5000 C.p C.f A2 c2 C.ws A3 c3 C.ks A4 c4 C.ac D.p D.f B2 d2 D.ws B3 d3 D.ks B4 d4 D.ac _ w h.w h.wl h.k h.kl h.a h.al k.w k.wl k.k k.kl k.a k.al (rsame_f C D h2 h3 h4)
theorem eqR_refl {α : Type} {d : α → α → Bool} (hd : ∀ x, d x x = false) : ∀ xs, eqR d xs xs = true
  | [] => rfl
  | x :: xs => by
    unfold eqR
    rw [if_neg (by rw [hd]; decide)]
    exact eqR_refl hd xs
theorem sB_refl (C : Cfg) : sB C C = true := by
  unfold sB eqL
  rw [if_pos rfl, if_pos rfl, if_pos rfl, if_pos rfl, if_pos rfl, eqR_refl (fun x => by simp [n33]), eqR_refl (fun x => by simp [n35]), eqR_refl (fun x => by simp [nI])]
  rfl
/-- The example's memory; its action is x. -/
structure LV (w W : World) (x : Int) : Prop where
  b0 : W.heap[w.heap.size]? = some (.cells #[.int .i64 0, .int .i64 0, .int .i64 4] 33 (0, 0))
  b1 : W.heap[w.heap.size + 1]? = some (.cells #[.int .i64 x] 3 (0, 0))
  b2 : W.heap[w.heap.size + 1 + 1]? = some (.cells #[.int .i64 1, .int .i64 4, .slice (some ⟨w.heap.size, 0, none⟩) 1 1, .slice none 0 0, .slice (some ⟨w.heap.size + 1, 0, none⟩) 1 1] 26 (0, 0))
  bel : Below w.heap.size w W
theorem LV.far {w W W' : World} {x : Int} (h : LV w W x) (hb : Below W.heap.size W W') : LV w W' x := ⟨blk_below h.b0 hb, blk_below h.b1 hb, blk_below h.b2 hb, below_step h.bel hb⟩
theorem LV.put {w W : World} {x : Int} (h : LV w W x) (y : Int) : LV w (W.setCell ⟨w.heap.size + 1, 0, none⟩ (.int .i64 y)) y :=
  ⟨blk_far (p := ⟨w.heap.size + 1, 0, none⟩) h.b0 (by simp) _, blk_put h.b1 0 _ rfl, blk_far (p := ⟨w.heap.size + 1, 0, none⟩) h.b2 (by simp) _, below_set h.bel (by omega)⟩
theorem LV.cx {w W : World} {x : Int} (h : LV w W x) : CX W ⟨1, 4, [⟨0, 0, 4⟩], [], [x]⟩ (some ⟨w.heap.size, 0, none⟩) 1 none 0 (some ⟨w.heap.size + 1, 0, none⟩) 1 := by
  refine ⟨⟨rfl, by simp, fun _ => ⟨_, rfl, fun j p hj => ?_⟩⟩, Nat.le_refl _, Kd.C_nil _ _, Nat.le_refl _, ⟨rfl, by simp, fun _ => ⟨_, rfl, fun j p hj => ?_⟩⟩, Nat.le_refl _⟩
  · rcases j with _ | j
    · simp at hj
      subst hj
      refine ⟨[.int .i64 0, .int .i64 0, .int .i64 4], rfl, k33_mk W ⟨0, 0, 4⟩, fun i u hu => ?_⟩
      show W.cell? ((⟨w.heap.size, 0, none⟩ : Addr).add (0 * 3 + i)) = some u
      rw [show ((⟨w.heap.size, 0, none⟩ : Addr).add (0 * 3 + i)) = ⟨w.heap.size, i, none⟩ by unfold Addr.add; split <;> simp_all]
      rw [blk_cell h.b0 i]
      rw [← hu]
      rcases i with _ | _ | _ | i <;> rfl
    · simp at hj
  · rcases j with _ | j
    · simp at hj
      subst hj
      refine ⟨[.int .i64 x], rfl, rfl, fun i u hu => ?_⟩
      show W.cell? ((⟨w.heap.size + 1, 0, none⟩ : Addr).add (0 * 1 + i)) = some u
      rw [show ((⟨w.heap.size + 1, 0, none⟩ : Addr).add (0 * 1 + i)) = ⟨w.heap.size + 1, i, none⟩ by unfold Addr.add; split <;> simp_all]
      rw [blk_cell h.b1 i]
      rw [← hu]
      rcases i with _ | i <;> rfl
    · simp at hj
theorem LV.chk0 {w W : World} (h : LV w W 0) (hg : LG W) : Calls Tryd.prog 12 #[.agg #[.int .i64 1, .int .i64 4, .slice (some ⟨w.heap.size, 0, none⟩) 1 1, .slice none 0 0, .slice (some ⟨w.heap.size + 1, 0, none⟩) 1 1]] W fun e w' => e = .returned (.tuple #[.agg #[.int .i64 0, .int .i64 0], .int .i64 0]) ∧ Below W.heap.size W w' :=
  check_any h.cx hg (by decide) (by decide) (by decide)
theorem LV.chk3 {w W : World} (h : LV w W 3) (hg : LG W) : Calls Tryd.prog 12 #[.agg #[.int .i64 1, .int .i64 4, .slice (some ⟨w.heap.size, 0, none⟩) 1 1, .slice none 0 0, .slice (some ⟨w.heap.size + 1, 0, none⟩) 1 1]] W fun e w' => e = .returned (.tuple #[.agg #[.int .i64 5, .int .i64 0], .int .i64 4]) ∧ Below W.heap.size W w' :=
  check_any h.cx hg (by decide) (by decide) (by decide)
theorem LV.same {w W : World} {x : Int} (h : LV w W x) : Calls Tryd.prog 13 #[.agg #[.int .i64 1, .int .i64 4, .slice (some ⟨w.heap.size, 0, none⟩) 1 1, .slice none 0 0, .slice (some ⟨w.heap.size + 1, 0, none⟩) 1 1], .agg #[.int .i64 1, .int .i64 4, .slice (some ⟨w.heap.size, 0, none⟩) 1 1, .slice none 0 0, .slice (some ⟨w.heap.size + 1, 0, none⟩) 1 1]] W fun e w' => e = .returned (.bool true) ∧ Below W.heap.size W w' := by
  have := same_any h.cx h.cx (by simp) (by simp) (by simp)
  rw [sB_refl] at this
  exact this
set_option maxHeartbeats 8000000 in
set_option maxRecDepth 100000 in
theorem lives_any {w : World} (hg : LG w) : Calls Tryd.prog 8 #[] w fun e w' => e = .returned (.bool true) ∧ Below w.heap.size w w' := by
  have HG := Aside0.mk hg
  clear hg
  go_enter Tryd.func8, Tryd.ntmps8
  go_upto_region 2 with (first | fail)
  have l1 : LV w (((w.alloc (.cells #[.int .i64 0, .int .i64 0, .int .i64 4] 33)).alloc (.cells #[.int .i64 0] 3)).alloc (.cells #[.int .i64 1, .int .i64 4, .slice (some ⟨w.heap.size, 0, none⟩) 1 1, .slice none 0 0, .slice (some ⟨w.heap.size + 1, 0, none⟩) 1 1] 26)) 0 :=
    ⟨blk_alloc (blk_alloc (blk_new _ _) _) _, blk_alloc (by simpa using heap_alloc_new (w.alloc (.cells #[.int .i64 0, .int .i64 0, .int .i64 4] 33)) (.cells #[.int .i64 0] 3)) _, by simpa using heap_alloc_new ((w.alloc (.cells #[.int .i64 0, .int .i64 0, .int .i64 4] 33)).alloc (.cells #[.int .i64 0] 3)) (.cells #[.int .i64 1, .int .i64 4, .slice (some ⟨w.heap.size, 0, none⟩) 1 1, .slice none 0 0, .slice (some ⟨w.heap.size + 1, 0, none⟩) 1 1] 26), below_alloc (below_alloc (below_alloc (Below.refl _ _) _) _) _⟩
  revert l1
  generalize (((w.alloc (.cells #[.int .i64 0, .int .i64 0, .int .i64 4] 33)).alloc (.cells #[.int .i64 0] 3)).alloc (.cells #[.int .i64 1, .int .i64 4, .slice (some ⟨w.heap.size, 0, none⟩) 1 1, .slice none 0 0, .slice (some ⟨w.heap.size + 1, 0, none⟩) 1 1] 26)) = W1
  intro l1
  have l10 := (blk_cell l1.b2 0).trans (show _ = some (.int .i64 1) from rfl)
  have l11 := (blk_cell l1.b2 1).trans (show _ = some (.int .i64 4) from rfl)
  have l12 := (blk_cell l1.b2 2).trans (show _ = some (.slice (some ⟨w.heap.size, 0, none⟩) 1 1) from rfl)
  have l13 := (blk_cell l1.b2 3).trans (show _ = some (.slice none 0 0) from rfl)
  have l14 := (blk_cell l1.b2 4).trans (show _ = some (.slice (some ⟨w.heap.size + 1, 0, none⟩) 1 1) from rfl)
  have L1 := Aside0.mk l1
  clear l1
  go_upto_region 3 with (first | (go_at_call 12; refine (L1.out.chk0 (HG.out.below L1.out.bel)).mono ?_; rintro e w2 ⟨rfl, hb⟩; have L2 := Aside0.mk (L1.out.far hb); clear hb))
  have l2 := L2.out.far (below_alloc (Below.refl w2.heap.size w2) (.cells #[.int .i64 0, .int .i64 0] 30))
  clear L1 L2 l10 l11 l12 l13 l14
  revert l2
  generalize (w2.alloc (.cells #[.int .i64 0, .int .i64 0] 30)) = W2
  intro l2
  have l24 := (blk_cell l2.b2 4).trans (show _ = some (.slice (some ⟨w.heap.size + 1, 0, none⟩) 1 1) from rfl)
  have a0 := (blk_cell l2.b1 0).trans (show _ = some (.int .i64 0) from rfl)
  have a1 := blk_frozen l2.b1 0
  have L2 := Aside0.mk l2
  clear l2
  go_upto_region 4 with (first | fail)
  have l3 := L2.out.put 3
  clear L2 l24 a0 a1
  revert l3
  generalize (W2.setCell ⟨w.heap.size + 1, 0, none⟩ (.int .i64 3)) = W3
  intro l3
  have l30 := (blk_cell l3.b2 0).trans (show _ = some (.int .i64 1) from rfl)
  have l31 := (blk_cell l3.b2 1).trans (show _ = some (.int .i64 4) from rfl)
  have l32 := (blk_cell l3.b2 2).trans (show _ = some (.slice (some ⟨w.heap.size, 0, none⟩) 1 1) from rfl)
  have l33 := (blk_cell l3.b2 3).trans (show _ = some (.slice none 0 0) from rfl)
  have l34 := (blk_cell l3.b2 4).trans (show _ = some (.slice (some ⟨w.heap.size + 1, 0, none⟩) 1 1) from rfl)
  have L3 := Aside0.mk l3
  clear l3
  go_upto_region 5 with (first | (go_at_call 12; refine (L3.out.chk3 (HG.out.below L3.out.bel)).mono ?_; rintro e w4 ⟨rfl, hb⟩; have L4 := Aside0.mk (L3.out.far hb); clear hb))
  have l5 := L4.out.far (below_alloc (Below.refl w4.heap.size w4) (.cells #[.int .i64 5, .int .i64 0] 30))
  clear L3 L4 l30 l31 l32 l33 l34
  have l50 := (blk_cell l5.b2 0).trans (show _ = some (.int .i64 1) from rfl)
  have l51 := (blk_cell l5.b2 1).trans (show _ = some (.int .i64 4) from rfl)
  have l52 := (blk_cell l5.b2 2).trans (show _ = some (.slice (some ⟨w.heap.size, 0, none⟩) 1 1) from rfl)
  have l53 := (blk_cell l5.b2 3).trans (show _ = some (.slice none 0 0) from rfl)
  have l54 := (blk_cell l5.b2 4).trans (show _ = some (.slice (some ⟨w.heap.size + 1, 0, none⟩) 1 1) from rfl)
  have L5 := Aside0.mk l5
  clear l5
  go_wp2_with (first | (go_at_call 13; refine L5.out.same.mono ?_; rintro e w6 ⟨rfl, hb⟩; have HB6 := Aside0.mk (below_step L5.out.bel hb); clear hb))
  go_ret
  exact ⟨rfl, HB6.out⟩
end Go.Proofs.YtehcgojcmcahnaaDoor.Cf
