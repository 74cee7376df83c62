/- TableWrites: the walk. -/
import Derived.Test.YtdebbanloopcgaaDoorTbQ3
import Derived.Test.YtdebbanloopcgaaDoorTbR
import Derived.Test.YtdebbanloopcgaaDoorFew
import Derived.Deep.RegionHeld3
set_option linter.unusedVariables false
set_option linter.unusedSimpArgs false
namespace Go.Proofs.YtdebbanloopcgaaDoor.Tb
open Go Go.RowKit Go.Proofs.YtdebbanloopcgaaDoorW.PrintWords Go.Proofs.YtdebbanloopcgaaDoorW.PrintLast Go.Proofs.YtdebbanloopcgaaDoorW.PrintMore Go.Proofs.YtdebbanloopcgaaDoor.Cz Go.Proofs.YtdebbanloopcgaaDoor.PTableWrites Go.Proofs.YtdebbanloopcgaaDoor.Cf
attribute [local go_sem] max2_int min2_int max_two min_two max_three min_three max_four min_four Tryd.underlying26 Tryd.underlying46 Tryd.underlying57
theorem chk_e (C : Cfg) : (if okB C = true then (0 : Int) else 4) = (chk C).e := by
  have h : ∀ C : Cfg, (chk C).e = 0 ∨ (chk C).e = 4 := fun C => by
    unfold chk
    split
    · exact Or.inr rfl
    · split
      · exact Or.inr rfl
      · exact Or.inl rfl
  by_cases hc : okB C = true
  · rw [if_pos hc]
    exact (beq_iff_eq.1 hc).symm
  · rw [if_neg hc]
    rcases h C with h | h
    · exact absurd (beq_iff_eq.2 h) hc
    · exact h.symm
set_option maxHeartbeats 16000000 in
set_option maxRecDepth 100000 in
theorem tableWrites_any {C : Cfg} {A2 A3 A4 : Option Addr} {Ac2 Ac3 Ac4 : Nat} {w : World} (h : CX w C A2 Ac2 A3 Ac3 A4 Ac4) 
    (l2 : C.ws.length ≤ maxLen) (l3 : C.ks.length ≤ maxLen) (l4 : C.ac.length ≤ maxLen) (hg : LG w) :
    Calls Tryd.prog 3 #[.agg #[.int .i64 C.p, .int .i64 C.f, .slice A2 C.ws.length Ac2, .slice A3 C.ks.length Ac3, .slice A4 C.ac.length Ac4]] w fun e w' => e = .returned (.bool true) ∧ Below w.heap.size w w' := by
  have FA := Aside0.mk (fun w1 (hb : Below w.heap.size w w1) => few_any (h.below hb) l2 l3 l4)
  have HXD := Aside0.mk h.few
  have HG := Aside0.mk hg
  have hD2 : (fewC C).ws.length ≤ 10 ∧ (fewC C).ks.length ≤ 10 ∧ (fewC C).ac.length ≤ 10 := by unfold fewC; simp only [List.length_take]; omega
  have B1 := Aside0.mk (And.intro (blk_new w (.cells #[.int .i64 C.p, .int .i64 C.f, .slice A2 C.ws.length Ac2, .slice A3 C.ks.length Ac3, .slice A4 C.ac.length Ac4] 26)) (below_alloc (Below.refl w.heap.size w) (.cells #[.int .i64 C.p, .int .i64 C.f, .slice A2 C.ws.length Ac2, .slice A3 C.ks.length Ac3, .slice A4 C.ac.length Ac4] 26)))
  clear h l2 l3 l4 hg
  generalize fewC C = D at FA HXD hD2
  have HDL := Aside0.mk hD2
  clear hD2
  go_enter Tryd.func3, Tryd.ntmps3
  go_upto_region 3 with (first | (go_at_call 9; refine (lives_any (HG.out.below B1.out.2)).mono ?_; rintro e w2 ⟨rfl, hb⟩; have B2_ := Aside0.mk (And.intro (blk_below B1.out.1 hb) (below_step B1.out.2 hb)); clear hb))
  have s0 := (blk_cell B2_.out.1 0).trans (show _ = some (.int .i64 C.p) from rfl)
  have s1 := (blk_cell B2_.out.1 1).trans (show _ = some (.int .i64 C.f) from rfl)
  have s2 := (blk_cell B2_.out.1 2).trans (show _ = some (.slice A2 C.ws.length Ac2) from rfl)
  have s3 := (blk_cell B2_.out.1 3).trans (show _ = some (.slice A3 C.ks.length Ac3) from rfl)
  have s4 := (blk_cell B2_.out.1 4).trans (show _ = some (.slice A4 C.ac.length Ac4) from rfl)
  clear B1
  go_upto_region 4 with (first | (go_at_call 10; refine (FA.out _ B2_.out.2).mono ?_; rintro e w3 ⟨rfl, hb⟩; have B3 := Aside0.mk (And.intro (blk_below B2_.out.1 hb) (below_step B2_.out.2 hb)); clear hb s0 s1 s2 s3 s4; have s0 := (blk_cell B3.out.1 0).trans (show _ = some (.int .i64 C.p) from rfl); have s1 := (blk_cell B3.out.1 1).trans (show _ = some (.int .i64 C.f) from rfl); have s2 := (blk_cell B3.out.1 2).trans (show _ = some (.slice A2 C.ws.length Ac2) from rfl); have s3 := (blk_cell B3.out.1 3).trans (show _ = some (.slice A3 C.ks.length Ac3) from rfl); have s4 := (blk_cell B3.out.1 4).trans (show _ = some (.slice A4 C.ac.length Ac4) from rfl); have sf0 := blk_frozen B3.out.1 0; have sf1 := blk_frozen B3.out.1 1; have sf2 := blk_frozen B3.out.1 2; have sf3 := blk_frozen B3.out.1 3; have sf4 := blk_frozen B3.out.1 4))
  clear s0 s1 s2 s3 s4 sf0 sf1 sf2 sf3 sf4 B2_ FA
  have B4 : (((((w3.setCell ⟨w.heap.size, 0, none⟩ (.int .i64 D.p)).setCell ⟨w.heap.size, 1, none⟩ (.int .i64 D.f)).setCell ⟨w.heap.size, 2, none⟩ (.slice A2 D.ws.length Ac2)).setCell ⟨w.heap.size, 3, none⟩ (.slice A3 D.ks.length Ac3)).setCell ⟨w.heap.size, 4, none⟩ (.slice A4 D.ac.length Ac4)).heap[w.heap.size]? = some (.cells #[.int .i64 D.p, .int .i64 D.f, .slice A2 D.ws.length Ac2, .slice A3 D.ks.length Ac3, .slice A4 D.ac.length Ac4] 26 (0, 0)) ∧ Below w.heap.size w (((((w3.setCell ⟨w.heap.size, 0, none⟩ (.int .i64 D.p)).setCell ⟨w.heap.size, 1, none⟩ (.int .i64 D.f)).setCell ⟨w.heap.size, 2, none⟩ (.slice A2 D.ws.length Ac2)).setCell ⟨w.heap.size, 3, none⟩ (.slice A3 D.ks.length Ac3)).setCell ⟨w.heap.size, 4, none⟩ (.slice A4 D.ac.length Ac4)) := ⟨(blk_put (blk_put (blk_put (blk_put (blk_put B3.out.1 0 (.int .i64 D.p) rfl) 1 (.int .i64 D.f) rfl) 2 (.slice A2 D.ws.length Ac2) rfl) 3 (.slice A3 D.ks.length Ac3) rfl) 4 (.slice A4 D.ac.length Ac4) rfl), (below_set (below_set (below_set (below_set (below_set B3.out.2 (Nat.le_refl _)) (Nat.le_refl _)) (Nat.le_refl _)) (Nat.le_refl _)) (Nat.le_refl _))⟩
  clear B3
  revert B4
  generalize (((((w3.setCell ⟨w.heap.size, 0, none⟩ (.int .i64 D.p)).setCell ⟨w.heap.size, 1, none⟩ (.int .i64 D.f)).setCell ⟨w.heap.size, 2, none⟩ (.slice A2 D.ws.length Ac2)).setCell ⟨w.heap.size, 3, none⟩ (.slice A3 D.ks.length Ac3)).setCell ⟨w.heap.size, 4, none⟩ (.slice A4 D.ac.length Ac4)) = w4
  intro B4
  have B4A := Aside0.mk B4
  clear B4
  have EN : Aside0 (∀ W, Below w.heap.size w W → Calls Tryd.prog 11 #[.agg #[.int .i64 D.p, .int .i64 D.f, .slice A2 D.ws.length Ac2, .slice A3 D.ks.length Ac3, .slice A4 D.ac.length Ac4]] W fun e w' => ∃ r, e = .returned (.tuple #[r, .int .i64 (chk D).e]) ∧ Wi.OI .u8 5 W w' r (encB D)) := ⟨fun W hb => encode_any (HXD.out.below hb) (HG.out.below hb) (Nat.le_trans HDL.out.2.1 (by decide)) (Nat.le_trans HDL.out.2.2 (by decide)) (Nat.le_trans HDL.out.1 (by decide))⟩
  have RN : Aside0 (∀ W, Below w.heap.size w W → Calls Tryd.prog 12 #[.agg #[.int .i64 D.p, .int .i64 D.f, .slice A2 D.ws.length Ac2, .slice A3 D.ks.length Ac3, .slice A4 D.ac.length Ac4]] W fun e w' => ∃ r, e = .returned (.tuple #[r, .int .i64 (chk D).e]) ∧ Wi.OI .u8 5 W w' r (encB D)) := ⟨fun W hb => by
    have h := renc_any (HXD.out.below hb) (Nat.le_trans HDL.out.2.1 (by decide)) (Nat.le_trans HDL.out.2.2 (by decide)) (Nat.le_trans HDL.out.1 (by decide))
    rw [chk_e] at h
    exact h⟩
  have SN : Aside0 (∀ W, Below w.heap.size w W → Calls Tryd.prog 13 #[.agg #[.int .i64 D.p, .int .i64 D.f, .slice A2 D.ws.length Ac2, .slice A3 D.ks.length Ac3, .slice A4 D.ac.length Ac4]] W fun e w' => e = .returned (.int .i64 ((encB D).length : Nat)) ∧ Below W.heap.size W w') := ⟨fun W hb => size_any (HXD.out.below hb) (HG.out.below hb) (Nat.le_trans HDL.out.2.1 (by decide)) (Nat.le_trans HDL.out.2.2 (by decide)) (Nat.le_trans HDL.out.1 (by decide))⟩
  generalize encB D = bs at EN RN SN
  generalize (chk D).e = ec at EN RN
  have s0 := (blk_cell B4A.out.1 0).trans (show _ = some (.int .i64 D.p) from rfl)
  have s1 := (blk_cell B4A.out.1 1).trans (show _ = some (.int .i64 D.f) from rfl)
  have s2 := (blk_cell B4A.out.1 2).trans (show _ = some (.slice A2 D.ws.length Ac2) from rfl)
  have s3 := (blk_cell B4A.out.1 3).trans (show _ = some (.slice A3 D.ks.length Ac3) from rfl)
  have s4 := (blk_cell B4A.out.1 4).trans (show _ = some (.slice A4 D.ac.length Ac4) from rfl)
  go_upto_region 5 with (first | (go_at_call 11; (with_reducible refine (EN.out _ B4A.out.2).mono ?_); rintro e w5 ⟨r, rfl, ho⟩; obtain ⟨A5, c5, rfl, hci⟩ := ho.reads; have H5 := Aside0.mk (And.intro (blk_below B4A.out.1 ho.bel) (below_step B4A.out.2 ho.bel)); have C5 := Aside0.mk hci; clear ho hci s0 s1 s2 s3 s4; have s0 := (blk_cell H5.out.1 0).trans (show _ = some (.int .i64 D.p) from rfl); have s1 := (blk_cell H5.out.1 1).trans (show _ = some (.int .i64 D.f) from rfl); have s2 := (blk_cell H5.out.1 2).trans (show _ = some (.slice A2 D.ws.length Ac2) from rfl); have s3 := (blk_cell H5.out.1 3).trans (show _ = some (.slice A3 D.ks.length Ac3) from rfl); have s4 := (blk_cell H5.out.1 4).trans (show _ = some (.slice A4 D.ac.length Ac4) from rfl)))
  go_upto_region 6 with (first | (go_at_call 12; (with_reducible refine (RN.out _ H5.out.2).mono ?_); rintro e w6 ⟨r, rfl, ho⟩; obtain ⟨A6, c6, rfl, hci⟩ := ho.reads; have H6 := Aside0.mk (And.intro (blk_below H5.out.1 ho.bel) (below_step H5.out.2 ho.bel)); have hs1 := (C5.out.below ho.bel).str; have hs2 := hci.str; clear ho hci s0 s1 s2 s3 s4; have s0 := (blk_cell H6.out.1 0).trans (show _ = some (.int .i64 D.p) from rfl); have s1 := (blk_cell H6.out.1 1).trans (show _ = some (.int .i64 D.f) from rfl); have s2 := (blk_cell H6.out.1 2).trans (show _ = some (.slice A2 D.ws.length Ac2) from rfl); have s3 := (blk_cell H6.out.1 3).trans (show _ = some (.slice A3 D.ks.length Ac3) from rfl); have s4 := (blk_cell H6.out.1 4).trans (show _ = some (.slice A4 D.ac.length Ac4) from rfl)))
  have hs : ((strOfNums bs).toList == (strOfNums bs).toList) = true := beq_self_eq_true _
  go_wp2_with (first | (go_at_call 13; (with_reducible refine (SN.out _ H6.out.2).mono ?_); rintro e w7 ⟨rfl, hb⟩; have HB := Aside0.mk (below_step H6.out.2 hb); clear hb))
  go_ret
  exact ⟨rfl, HB.out⟩
end Go.Proofs.YtdebbanloopcgaaDoor.Tb
