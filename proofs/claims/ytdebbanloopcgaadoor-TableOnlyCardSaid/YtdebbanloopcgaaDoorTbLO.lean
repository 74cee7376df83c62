/- TableOnly: the walk. -/
import Derived.Test.YtdebbanloopcgaaDoorTbQ3
import Derived.Deep.RegionHeld3
set_option linter.unusedVariables false
set_option linter.unusedSimpArgs false
namespace Go.Proofs.YtdebbanloopcgaaDoor.Tb
open Go Go.RowKit Go.Proofs.YtdebbanloopcgaaDoorW.PrintWords Go.Proofs.YtdebbanloopcgaaDoorW.PrintLast Go.Proofs.YtdebbanloopcgaaDoorW.PrintMore Go.Proofs.YtdebbanloopcgaaDoor.Cz Go.Proofs.YtdebbanloopcgaaDoor.PTableWrites Go.Proofs.YtdebbanloopcgaaDoor.Cf
attribute [local go_sem] max2_int min2_int max_two min_two max_three min_three max_four min_four Tryd.underlying26 Tryd.underlying46 Tryd.underlying57
theorem nil_chk : (chk nilC).e = 4 := by kernel_rfl
theorem nil_enc : encB nilC = [] := by kernel_rfl
/-- What is said of the config that is read, and of what is written of it. -/
theorem only_law {ys : List Int} (hf : Wi.WF ys) : (decE ys ≠ 0 ∧ (chk (decCf ys)).e = 4 ∧ encB (decCf ys) = []) ∨ (decE ys = 0 ∧ (chk (decCf ys)).e = 0 ∧ encB (decCf ys) = ys) := by
  by_cases h : decE ys = 0
  · obtain ⟨h1, h2⟩ := dec_only hf h
    refine Or.inr ⟨h, beq_iff_eq.1 h2, ?_⟩
    unfold encB
    rw [if_pos h2, h1]
  · have hc : decCf ys = nilC := by unfold decCf; rw [if_neg h]
    rw [hc]
    exact Or.inl ⟨h, nil_chk, nil_enc⟩
set_option maxHeartbeats 16000000 in
set_option maxRecDepth 100000 in
theorem tableOnly_any (A : Option Addr) (n c : Nat) (xs : List Int) (hn : n = xs.length) (hl : xs.length ≤ maxLen) {w : World} (h : Wi.CI .u8 w A c xs) (hf : Wi.WF xs) (hg : LG w) :
    Calls Tryd.prog 5 #[.slice A n c] w fun e w' => e = .returned (.bool true) ∧ Below w.heap.size w w' := by
  subst hn
  obtain ⟨ys, h1, h2, h3, h4⟩ : ∃ ys, Wi.CI .u8 w A c ys ∧ Wi.WF ys ∧ ys.length ≤ 200 ∧ min xs.length 200 = ys.length := ⟨xs.take (min xs.length 200), h.take (by omega), hf.take _, by rw [List.length_take]; omega, by rw [List.length_take]; omega⟩
  have hc := h.le
  unfold maxLen at hl
  obtain ⟨i, hi, _⟩ := info_parts Wi.info8
  have hcut := cut_to (P := Tryd.prog) 29 5 .i64 Tryd.underlying29 hi A xs.length c (ys.length : Int) (by omega) (by omega) hc
  have hj' : ((if (200 : Int) < (xs.length : Int) then (200 : Int) else (xs.length : Int)) = (ys.length : Int)) := by
    rw [← h4]
    split <;> omega
  have HC := Aside0.mk h1
  have HW := Aside0.mk h2
  have HL := Aside0.mk h3
  have HG := Aside0.mk hg
  have HO := only_law h2
  clear h hf hl hg h1 h2 h3 h4 hc hi
  go_enter Tryd.func5, Tryd.ntmps5
  go_upto_region 3 with (first | (go_at_call 9; refine (lives_any HG.out).mono ?_; rintro e w2 ⟨rfl, hb⟩; have B2_ := Aside0.mk hb; clear hb))
  have HD := Aside0.mk (decode_any (HC.out.below B2_.out) HW.out (Nat.le_trans HL.out (by decide)) (HG.out.below B2_.out))
  go_upto_region 4 with (first | fail)
  clear hcut hj'
  go_upto_region 5 with (first | (go_at_call 15; (with_reducible refine HD.out.mono ?_); rintro e w3 ⟨B2, d2, B3, d3, B4, d4, rfl, hx, hb⟩; have HX := Aside0.mk (And.intro hx (below_step B2_.out hb)); clear hx hb HD))
  have HDL := Aside0.mk (decCf_len HW.out)
  generalize decCf ys = D at HO HX HDL ⊢
  generalize decE ys = er at HO ⊢
  have R4 := Aside0.mk (And.intro (blk_new w3 (.cells #[.int .i64 D.p, .int .i64 D.f, .slice B2 D.ws.length d2, .slice B3 D.ks.length d3, .slice B4 D.ac.length d4] 26)) (And.intro (HX.out.1.below (below_alloc (Below.refl w3.heap.size w3) (.cells #[.int .i64 D.p, .int .i64 D.f, .slice B2 D.ws.length d2, .slice B3 D.ks.length d3, .slice B4 D.ac.length d4] 26))) (below_alloc HX.out.2 (.cells #[.int .i64 D.p, .int .i64 D.f, .slice B2 D.ws.length d2, .slice B3 D.ks.length d3, .slice B4 D.ac.length d4] 26))))
  clear HX
  generalize (w3.alloc (.cells #[.int .i64 D.p, .int .i64 D.f, .slice B2 D.ws.length d2, .slice B3 D.ks.length d3, .slice B4 D.ac.length d4] 26)) = w4 at R4 ⊢
  generalize w3.heap.size = q at R4 ⊢
  have EN : Aside0 (Calls Tryd.prog 11 #[.agg #[.int .i64 D.p, .int .i64 D.f, .slice B2 D.ws.length d2, .slice B3 D.ks.length d3, .slice B4 D.ac.length d4]] w4 fun e w' => ∃ r, e = .returned (.tuple #[r, .int .i64 (chk D).e]) ∧ Wi.OI .u8 5 w4 w' r (encB D)) := ⟨encode_any R4.out.2.1 (HG.out.below R4.out.2.2) (Nat.le_trans HDL.out.2.1 (by decide)) (Nat.le_trans HDL.out.2.2 (by decide)) (Nat.le_trans HDL.out.1 (by decide))⟩
  clear HDL
  generalize encB D = bs at EN HO
  generalize (chk D).e = ec at EN HO
  have s0 := (blk_cell R4.out.1 0).trans (show _ = some (.int .i64 D.p) from rfl)
  have s1 := (blk_cell R4.out.1 1).trans (show _ = some (.int .i64 D.f) from rfl)
  have s2 := (blk_cell R4.out.1 2).trans (show _ = some (.slice B2 D.ws.length d2) from rfl)
  have s3 := (blk_cell R4.out.1 3).trans (show _ = some (.slice B3 D.ks.length d3) from rfl)
  have s4 := (blk_cell R4.out.1 4).trans (show _ = some (.slice B4 D.ac.length d4) from rfl)
  go_upto_region 6 with (first | (go_at_call 11; (with_reducible refine EN.out.mono ?_); rintro e w5 ⟨r, rfl, ho⟩; obtain ⟨A5, c5, rfl, hci⟩ := ho.reads; have H5 := Aside0.mk (And.intro hci (below_step R4.out.2.2 ho.bel)); clear ho hci s0 s1 s2 s3 s4 EN))
  rcases HO with ⟨ho, rfl, rfl⟩ | ⟨rfl, rfl, rfl⟩
  · have d1 : decide (er = 0) = false := decide_eq_false ho
    have d2 : (er == 0) = false := beq_eq_false_iff_ne.mpr ho
    have d3 : (er != 0) = true := bne_iff_ne.mpr ho
    go_wp2
    go_ret
    exact ⟨rfl, H5.out.2⟩
  · have hs1 := H5.out.1.str
    have hs2 := (HC.out.below H5.out.2).str
    have hs : ((strOfNums bs).toList == (strOfNums bs).toList) = true := beq_self_eq_true _
    go_wp2
    go_ret
    exact ⟨rfl, H5.out.2⟩
end Go.Proofs.YtdebbanloopcgaaDoor.Tb
