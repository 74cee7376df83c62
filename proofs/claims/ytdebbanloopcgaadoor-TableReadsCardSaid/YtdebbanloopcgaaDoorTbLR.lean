/- TableReads: the walk. -/
import Derived.Test.YtdebbanloopcgaaDoorTbQ3
import Derived.Test.YtdebbanloopcgaaDoorTbRd
import Derived.Deep.RegionHeld3
set_option linter.unusedVariables false
set_option linter.unusedSimpArgs false
namespace Go.Proofs.YtdebbanloopcgaaDoor.Tb
open Go Go.RowKit Go.Proofs.YtdebbanloopcgaaDoorW.PrintWords Go.Proofs.YtdebbanloopcgaaDoorW.PrintLast Go.Proofs.YtdebbanloopcgaaDoorW.PrintMore Go.Proofs.YtdebbanloopcgaaDoor.Cz Go.Proofs.YtdebbanloopcgaaDoor.PTableWrites Go.Proofs.YtdebbanloopcgaaDoor.Cf
attribute [local go_sem] max2_int min2_int max_two min_two max_three min_three max_four min_four Tryd.underlying26 Tryd.underlying46 Tryd.underlying57
/-- The bytes that are read. -/
def bsN (ys : List Int) : Nat → List Int
  | 0 => ys
  | 1 => sealB ys
  | _ => sealB ([231, 1] ++ ys)
theorem bsN_wf {ys : List Int} (h : Wi.WF ys) : ∀ i, Wi.WF (bsN ys i)
  | 0 => h
  | 1 => h.app (Wi.WF.putB _ _)
  | _ + 2 => Wi.WF.app (Wi.WF.app (fun x hx => by simp at hx; omega) h) (Wi.WF.putB _ _)
theorem bsN_len {ys : List Int} (h : ys.length ≤ 200) : ∀ i, (bsN ys i).length ≤ 900
  | 0 => by show ys.length ≤ 900; omega
  | 1 => by show (ys ++ Wi.putB 2 (Wi.sumB ys)).length ≤ 900; rw [List.length_append, show (Wi.putB 2 (Wi.sumB ys)).length = 2 from rfl]; omega
  | _ + 2 => by show (([231, 1] ++ ys) ++ Wi.putB 2 (Wi.sumB ([231, 1] ++ ys))).length ≤ 900; rw [List.length_append, List.length_append, show (Wi.putB 2 (Wi.sumB ([231, 1] ++ ys))).length = 2 from rfl]; simp; omega
/-- The three rows of bytes in memory. -/
structure TR (W : World) (qa : Nat) (ys : List Int) (Af : Nat → Option Addr) (cf : Nat → Nat) : Prop where
  ce : ∀ i, i < 3 → W.cell? ⟨qa, i, none⟩ = some (.slice (Af i) (bsN ys i).length (cf i))
  ci : ∀ i, i < 3 → Wi.CI .u8 W (Af i) (cf i) (bsN ys i)
theorem TR.far {W W' : World} {qa : Nat} {ys : List Int} {Af : Nat → Option Addr} {cf : Nat → Nat} (h : TR W qa ys Af cf) (hb : Below W.heap.size W W') : TR W' qa ys Af cf := ⟨fun i hi => cell_b (h.ce i hi) hb, fun i hi => (h.ci i hi).below hb⟩
set_option maxHeartbeats 16000000 in
set_option maxRecDepth 100000 in
theorem tableReads_any (A : Option Addr) (n c : Nat) (xs : List Int) (hn : n = xs.length) (hl : xs.length ≤ maxLen) {w : World} (h : Wi.CI .u8 w A c xs) (hf : Wi.WF xs) (hg : LG w) :
    Calls Tryd.prog 7 #[.slice A n c] w fun e w' => e = .returned (.bool true) ∧ Below w.heap.size w w' := by
  subst hn
  obtain ⟨ys, h1, h2, h3, h4⟩ : ∃ ys, Wi.CI .u8 w A c ys ∧ Wi.WF ys ∧ ys.length ≤ 200 ∧ min xs.length 200 = ys.length := ⟨xs.take (min xs.length 200), h.take (by omega), hf.take _, by rw [List.length_take]; omega, by rw [List.length_take]; omega⟩
  have hc := h.le
  unfold maxLen at hl
  obtain ⟨i, hi, _⟩ := info_parts Wi.info8
  have hcut := cut_to (P := Tryd.prog) 29 5 .i64 Tryd.underlying29 hi A xs.length c (ys.length : Int) (by omega) (by omega) hc
  have hj' : ((if (200 : Int) < (xs.length : Int) then (200 : Int) else (xs.length : Int)) = (ys.length : Int)) := by
    rw [← h4]
    split <;> omega
  have HC := Aside0.mk h1
  have HW := Aside0.mk h2
  have HL := Aside0.mk h3
  have HG := Aside0.mk hg
  clear h hf hl hg h1 h2 h3 h4 hc hi
  go_enter Tryd.func7, Tryd.ntmps7
  go_upto_region 3 with (first | (go_at_call 9; refine (lives_any HG.out).mono ?_; rintro e w2 ⟨rfl, hb⟩; have B2_ := Aside0.mk hb; clear hb))
  go_upto_region 4 with (first | fail)
  clear hcut hj'
  have HCY := Aside0.mk (HC.out.below B2_.out)
  go_upto_region 5 with (first | ((with_reducible refine gate_dst (N := 21) rfl ?_); refine Wi.lit_ints (k := .u8) (e := 5) ?hg (N := 21) ?hd [231, 1] #[.int .u8 231, .int .u8 1] ?hr ?hi ?hm ?_; (case hd => rfl); (case hg => rfl); (case hr => first | (go_simp; done) | (go_simp; rfl)); (case hi => rfl); (case hm => simp); intro D w3 hC hO; have H3 : Aside0 (Wi.OI .u8 5 w2 w3 (.slice D 2 2) [231, 1]) := ⟨hO⟩; clear hC hO))
  have HCY3 := Aside0.mk (HCY.out.below H3.out.bel)
  go_upto_region 6 with (first | ((with_reducible refine gate_builtin (b := .append) (xs := #[.tmp 22, .tmp 23]) rfl ?_); at_builtin; refine Wi.app_ints (k := .u8) (w0 := w2) rfl (.tmp 22) (.tmp 23) 29 1 rfl Tryd.underlying29 Wi.info8 (by decide) (by decide) _ [231, 1] ys _ _ _ rfl rfl rfl ?aO ?aR ?aL ?_; (case aL => have := HL.out; simp only [List.length_cons, List.length_nil]; omega); (case aR => exact HCY3.out); (case aO => exact H3.out); intro v4 w4 ho hg hat; obtain ⟨zs, hzs⟩ : ∃ z, [231, 1] ++ ys = z := ⟨_, rfl⟩; rw [hzs] at ho; obtain ⟨A4, c4, rfl, hc4⟩ := ho.reads; have HZS := Aside0.mk hzs; have H4 := Aside0.mk (And.intro hc4 ho.bel); clear hzs ho hg hat hc4))
  have HWZ : Aside0 (Wi.WF zs) := ⟨by rw [← HZS.out]; exact Wi.WF.app (fun x hx => by simp at hx; omega) HW.out⟩
  have HLZ : Aside0 (zs.length ≤ 900) := ⟨by rw [← HZS.out]; have := HL.out; simp; omega⟩
  clear H3 HCY3
  have S1 := Aside0.mk (Wi.rSeal_any (HCY.out.below H4.out.2) HW.out (Nat.le_trans HL.out (by decide)))
  go_upto_region 7 with (first | (go_at_call 17; (with_reducible refine S1.out.mono ?_); rintro e w5 ⟨r, rfl, ho⟩; obtain ⟨l5, hl5⟩ : ∃ z, ys ++ Wi.putB 2 (Wi.sumB ys) = z := ⟨_, rfl⟩; rw [hl5] at ho; obtain ⟨A5, c5, rfl, hc5⟩ := ho.reads; have EL5 := Aside0.mk hl5; have H5 := Aside0.mk (And.intro hc5 ho.bel); have S2 := Aside0.mk (Wi.rSeal_any (H4.out.1.below ho.bel) HWZ.out HLZ.out); clear hl5 ho hc5 S1) | (go_at_call 17; (with_reducible refine S2.out.mono ?_); rintro e w6 ⟨r, rfl, ho⟩; obtain ⟨l6, hl6⟩ : ∃ z, zs ++ Wi.putB 2 (Wi.sumB zs) = z := ⟨_, rfl⟩; rw [hl6] at ho; obtain ⟨A6, c6, rfl, hc6⟩ := ho.reads; have EL6 := Aside0.mk hl6; have H6 := Aside0.mk (And.intro hc6 ho.bel); clear hl6 ho hc6 S2))
  have h7 : Below w2.heap.size w2 (w6.alloc (.cells #[.slice A ys.length c, .slice A5 l5.length c5, .slice A6 l6.length c6] 29)) ∧ TR (w6.alloc (.cells #[.slice A ys.length c, .slice A5 l5.length c5, .slice A6 l6.length c6] 29)) w6.heap.size ys (fun i => if i = 0 then A else if i = 1 then A5 else A6) (fun i => if i = 0 then c else if i = 1 then c5 else c6) := by
    have hba := below_alloc (Below.refl w6.heap.size w6) (.cells #[.slice A ys.length c, .slice A5 l5.length c5, .slice A6 l6.length c6] 29)
    have hb26 := below_step (below_step H4.out.2 H5.out.2) H6.out.2
    have e1 : bsN ys 1 = l5 := EL5.out
    have e2 : bsN ys 2 = l6 := by rw [← EL6.out, ← HZS.out]; rfl
    refine ⟨below_step hb26 hba, fun i hi => ?_, fun i hi => ?_⟩
    · have hn := blk_new w6 (.cells #[.slice A ys.length c, .slice A5 l5.length c5, .slice A6 l6.length c6] 29)
      rcases i with _ | _ | _ | i
      · exact (blk_cell hn 0).trans rfl
      · rw [show bsN ys (0 + 1) = l5 from e1]; exact (blk_cell hn 1).trans rfl
      · rw [show bsN ys (0 + 1 + 1) = l6 from e2]; exact (blk_cell hn 2).trans rfl
      · omega
    · rcases i with _ | _ | _ | i
      · exact HCY.out.below (below_step hb26 hba)
      · rw [show bsN ys (0 + 1) = l5 from e1]; exact H5.out.1.below (below_step H6.out.2 hba)
      · rw [show bsN ys (0 + 1 + 1) = l6 from e2]; exact H6.out.1.below hba
      · omega
  have H7 := Aside0.mk h7
  clear h7 H4 H5 H6 EL5 EL6 HZS HWZ HLZ HCY HC
  generalize (fun i => if i = 0 then A else if i = 1 then A5 else A6) = Af at H7
  generalize (fun i => if i = 0 then c else if i = 1 then c5 else c6) = cf at H7
  generalize (w6.alloc (.cells #[.slice A ys.length c, .slice A5 l5.length c5, .slice A6 l6.length c6] 29)) = w7 at H7 ⊢
  generalize w6.heap.size = qa at H7 ⊢
  go_wp2
  go_loopw [5] (fun v5 wr => ∃ i : Nat, v5 = .int .i64 i ∧ i ≤ 3 ∧ Aside0 (Below w7.heap.size w7 wr)) (fun v5 _ => 3 - (intOf v5).toNat)
  case atStart => exact ⟨0, rfl, by omega, ⟨Below.refl _ _⟩⟩
  case round =>
    obtain ⟨i, rfl, hi, HB⟩ := hrel
    by_cases hlt : i < 3
    ·
      have d1 : decide ((i : Int) < 3) = true := decide_eq_true (by omega)
      have d1n : decide (i < 3) = true := decide_eq_true hlt
      have hi0 : 0 ≤ (i : Int) := by omega
      have hi1 : (i : Int) < 3 := by omega
      have HT := Aside0.mk (H7.out.2.far HB.out)
      have HBW := Aside0.mk (below_step B2_.out (below_step H7.out.1 HB.out))
      have ce := HT.out.ce i hlt
      have HCI := Aside0.mk (HT.out.ci i hlt)
      have HWB := Aside0.mk (bsN_wf HW.out i)
      have HLB := Aside0.mk (bsN_len HL.out i)
      have HCE := Aside0.mk ce
      clear HT
      generalize bsN ys i = bs at HCI HWB HLB ce HCE
      generalize Af i = Ai at HCI ce HCE
      generalize cf i = ci at HCI ce HCE
      have hd := decode_any HCI.out HWB.out HLB.out (HG.out.below HBW.out)
      have hdl := decCf_len HWB.out
      have hr : ∀ W, Below wr.heap.size wr W → Calls Tryd.prog 18 #[.slice Ai bs.length ci] W fun e w' => DA W w' bs e := fun W hb => rdecode_any (HCI.out.below hb) HWB.out HLB.out
      have hn : ∀ W, Below wr.heap.size wr W → Calls Tryd.prog 19 #[.slice Ai bs.length ci] W fun e w' => e = .returned (.tuple #[.int .i64 ((decCf bs).ws.length : Nat), .int .i64 ((decCf bs).ks.length : Nat), .int .i64 ((decCf bs).ac.length : Nat), .int .i64 (decE bs)]) ∧ Below W.heap.size W w' := fun W hb => count_any (HCI.out.below hb) HWB.out HLB.out (HG.out.below (below_step HBW.out hb))
      unfold DA at hd hr
      generalize decCf bs = D at hd hr hn hdl
      generalize decE bs = er at hd hr hn
      have HD := Aside0.mk hd
      have HRD := Aside0.mk hr
      have HN := Aside0.mk hn
      have HDL := Aside0.mk hdl
      clear hd hr hn hdl HCI HWB HLB
      go_upto_region 11 with (first | (go_at_call 15; (with_reducible refine HD.out.mono ?_); rintro e w8 ⟨B2, b2, B3, b3, B4, b4, rfl, hx, hb⟩; have H8 := Aside0.mk (And.intro hx hb); clear hx hb HD))
      have h9 := And.intro (blk_new w8 (.cells #[.int .i64 D.p, .int .i64 D.f, .slice B2 D.ws.length b2, .slice B3 D.ks.length b3, .slice B4 D.ac.length b4] 26)) (And.intro (H8.out.1.below (below_alloc (Below.refl w8.heap.size w8) (.cells #[.int .i64 D.p, .int .i64 D.f, .slice B2 D.ws.length b2, .slice B3 D.ks.length b3, .slice B4 D.ac.length b4] 26))) (below_step H8.out.2 (below_alloc (Below.refl w8.heap.size w8) (.cells #[.int .i64 D.p, .int .i64 D.f, .slice B2 D.ws.length b2, .slice B3 D.ks.length b3, .slice B4 D.ac.length b4] 26))))
      have H9 := Aside0.mk h9
      clear h9 H8 ce
      generalize (w8.alloc (.cells #[.int .i64 D.p, .int .i64 D.f, .slice B2 D.ws.length b2, .slice B3 D.ks.length b3, .slice B4 D.ac.length b4] 26)) = w9 at H9 ⊢
      generalize w8.heap.size = qc at H9 ⊢
      have ce := cell_b HCE.out H9.out.2.2
      go_upto_region 12 with (first | (go_at_call 18; (with_reducible refine (HRD.out _ H9.out.2.2).mono ?_); rintro e w10 ⟨E2, e2, E3, e3, E4, e4, rfl, hx, hb⟩; have H10 := Aside0.mk (And.intro hx hb); clear hx hb HRD))
      have hbe := below_alloc (Below.refl w10.heap.size w10) (.cells #[.int .i64 D.p, .int .i64 D.f, .slice E2 D.ws.length e2, .slice E3 D.ks.length e3, .slice E4 D.ac.length e4] 26)
      have h11 := And.intro (blk_new w10 (.cells #[.int .i64 D.p, .int .i64 D.f, .slice E2 D.ws.length e2, .slice E3 D.ks.length e3, .slice E4 D.ac.length e4] 26)) (And.intro (H10.out.1.below hbe) (And.intro (blk_below (blk_below H9.out.1 H10.out.2) hbe) (And.intro ((H9.out.2.1.below H10.out.2).below hbe) (below_step (below_step H9.out.2.2 H10.out.2) hbe))))
      have H11 := Aside0.mk h11
      clear h11 hbe H9 H10 ce
      generalize (w10.alloc (.cells #[.int .i64 D.p, .int .i64 D.f, .slice E2 D.ws.length e2, .slice E3 D.ks.length e3, .slice E4 D.ac.length e4] 26)) = w11 at H11 ⊢
      generalize w10.heap.size = qd at H11 ⊢
      have ce := cell_b HCE.out H11.out.2.2.2.2
      go_upto_region 13 with (first | (go_at_call 19; (with_reducible refine (HN.out _ H11.out.2.2.2.2).mono ?_); rintro e w12 ⟨rfl, hb⟩; have H12 := Aside0.mk (And.intro (blk_below H11.out.1 hb) (And.intro (H11.out.2.1.below hb) (And.intro (blk_below H11.out.2.2.1 hb) (And.intro (H11.out.2.2.2.1.below hb) (below_step H11.out.2.2.2.2 hb))))); clear hb HN ce))
      clear H11 HCE
      have SA : Aside0 (Calls Tryd.prog 16 #[.agg #[.int .i64 D.p, .int .i64 D.f, .slice B2 D.ws.length b2, .slice B3 D.ks.length b3, .slice B4 D.ac.length b4], .agg #[.int .i64 D.p, .int .i64 D.f, .slice E2 D.ws.length e2, .slice E3 D.ks.length e3, .slice E4 D.ac.length e4]] w12 fun e w' => e = .returned (.bool true) ∧ Below w12.heap.size w12 w') := ⟨by
        have h := rsame_any H12.out.2.2.2.1 H12.out.2.1 (Nat.le_trans HDL.out.1 (by decide)) (Nat.le_trans HDL.out.2.1 (by decide)) (Nat.le_trans HDL.out.2.2 (by decide))
        rw [sB_refl] at h
        exact h⟩
      have x0 := (blk_cell H12.out.2.2.1 0).trans (show _ = some (.int .i64 D.p) from rfl)
      have x1 := (blk_cell H12.out.2.2.1 1).trans (show _ = some (.int .i64 D.f) from rfl)
      have x2 := (blk_cell H12.out.2.2.1 2).trans (show _ = some (.slice B2 D.ws.length b2) from rfl)
      have x3 := (blk_cell H12.out.2.2.1 3).trans (show _ = some (.slice B3 D.ks.length b3) from rfl)
      have x4 := (blk_cell H12.out.2.2.1 4).trans (show _ = some (.slice B4 D.ac.length b4) from rfl)
      have y0 := (blk_cell H12.out.1 0).trans (show _ = some (.int .i64 D.p) from rfl)
      have y1 := (blk_cell H12.out.1 1).trans (show _ = some (.int .i64 D.f) from rfl)
      have y2 := (blk_cell H12.out.1 2).trans (show _ = some (.slice E2 D.ws.length e2) from rfl)
      have y3 := (blk_cell H12.out.1 3).trans (show _ = some (.slice E3 D.ks.length e3) from rfl)
      have y4 := (blk_cell H12.out.1 4).trans (show _ = some (.slice E4 D.ac.length e4) from rfl)
      go_wp2_with (first | (go_at_call 16; (with_reducible refine SA.out.mono ?_); rintro e w13 ⟨rfl, hb⟩; have HB13 := Aside0.mk (below_step HB.out (below_step H12.out.2.2.2.2 hb)); have H13 := Aside0.mk (blk_below H12.out.1 hb); clear hb x0 x1 x2 x3 x4 y0 y1 y2 y3 y4 SA; have y0 := (blk_cell H13.out 0).trans (show _ = some (.int .i64 D.p) from rfl); have y1 := (blk_cell H13.out 1).trans (show _ = some (.int .i64 D.f) from rfl); have y2 := (blk_cell H13.out 2).trans (show _ = some (.slice E2 D.ws.length e2) from rfl); have y3 := (blk_cell H13.out 3).trans (show _ = some (.slice E3 D.ks.length e3) from rfl); have y4 := (blk_cell H13.out 4).trans (show _ = some (.slice E4 D.ac.length e4) from rfl)))
      go_roundw
      case rel => exact ⟨i + 1, by go_num, by omega, HB13⟩
      case measure => simp [intOf]; omega
    · have d1 : decide ((i : Int) < 3) = false := decide_eq_false (by omega)
      have d1n : decide (i < 3) = false := decide_eq_false hlt
      go_wp2
      go_ret
      exact ⟨rfl, below_step B2_.out (below_step H7.out.1 HB.out)⟩
end Go.Proofs.YtdebbanloopcgaaDoor.Tb
