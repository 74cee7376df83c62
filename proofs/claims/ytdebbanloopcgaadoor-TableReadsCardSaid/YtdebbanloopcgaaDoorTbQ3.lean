/- Layer 5 (table): TbN, TbP, TbL, laid into one text by wip/tq.py. -/
import Derived.Test.YtdebbanloopcgaaDoorTbQ2
import Derived.Deep.RegionHeld3
import Derived.Test.YtdebbanloopcgaaDoorTbM
/- Layer 5 (table): Decode. -/
set_option linter.unusedVariables false
set_option linter.unusedSimpArgs false
namespace Go.Proofs.YtdebbanloopcgaaDoor.Tb
open Go Go.RowKit Go.Proofs.YtdebbanloopcgaaDoorW.PrintWords Go.Proofs.YtdebbanloopcgaaDoorW.PrintLast Go.Proofs.YtdebbanloopcgaaDoorW.PrintMore Go.Proofs.YtdebbanloopcgaaDoor.Cz Go.Proofs.YtdebbanloopcgaaDoor.PTableWrites Go.Proofs.YtdebbanloopcgaaDoor.Cf
attribute [local go_sem] max2_int min2_int max_two min_two max_three min_three max_four min_four Tryd.underlying26 Tryd.underlying46 Tryd.underlying57
theorem opB_wf {xs : List Int} (h : Wi.WF xs) : Wi.WF (Wi.opB xs) := by
  unfold Wi.opB
  split
  · exact h.take _
  · exact Wi.WF.nil
theorem opB_le (xs : List Int) : (Wi.opB xs).length ≤ xs.length := by
  unfold Wi.opB
  split
  · rw [List.length_take]; omega
  · exact Nat.zero_le _
set_option maxHeartbeats 16000000 in
set_option maxRecDepth 100000 in
theorem decode_any {A : Option Addr} {c : Nat} {xs : List Int} {w : World} (h : Wi.CI .u8 w A c xs) (hf : Wi.WF xs) (hl : xs.length ≤ 900) (hg : LG w) :
    Calls Tryd.prog 15 #[.slice A xs.length c] w fun e w' => DA w w' xs e := by
  have HO := Aside0.mk (Wi.open_any (h.below (below_alloc (Below.refl w.heap.size w) (.cells #[.int .i64 0, .int .i64 0, .slice none 0 0, .slice none 0 0, .slice none 0 0] 26))) hf hl)
  have R0 := Aside0.mk (And.intro (blk_new w (.cells #[.int .i64 0, .int .i64 0, .slice none 0 0, .slice none 0 0, .slice none 0 0] 26)) (below_alloc (Below.refl w.heap.size w) (.cells #[.int .i64 0, .int .i64 0, .slice none 0 0, .slice none 0 0, .slice none 0 0] 26)))
  have HG := Aside0.mk hg
  have TT := Aside0.mk Tryd.underlying26
  have hmf : ∀ (fn : Fn) (first cap : Array Value) (w : World), (Instr.makeFunc fn first cap).run Tryd.prog w = .ok (.func fn first cap) w := fun _ _ _ _ => rfl
  have HW := Aside0.mk (opB_wf hf)
  have HL := Aside0.mk (Nat.le_trans (opB_le xs) (Nat.le_trans hl (by decide : 900 ≤ 1000)))
  have HE : Aside0 (decE xs = if Wi.opE xs ≠ 0 then Wi.opE xs else if (Wi.next (Wi.next ⟨Wi.opB xs, 0⟩ 1) 1).e ≠ 0 then (Wi.next (Wi.next ⟨Wi.opB xs, 0⟩ 1) 1).e else if Wi.nextV ⟨Wi.opB xs, 0⟩ 1 ≠ 231 then 8 else if Wi.nextV (Wi.next ⟨Wi.opB xs, 0⟩ 1) 1 ≠ 1 then 8 else if Wi.endE (eA (Wi.next (Wi.next ⟨Wi.opB xs, 0⟩ 1) 1)) ≠ 0 then Wi.endE (eA (Wi.next (Wi.next ⟨Wi.opB xs, 0⟩ 1) 1)) else (chk (decC (Wi.next (Wi.next ⟨Wi.opB xs, 0⟩ 1) 1))).e) := ⟨rfl⟩
  have HR : Aside0 (r2 xs = Wi.next (Wi.next ⟨Wi.opB xs, 0⟩ 1) 1) := ⟨rfl⟩
  clear h hf hl hg
  generalize Wi.opE xs = oe at HO HE
  generalize Wi.opB xs = bs at HO HE HR HW HL
  go_enter Tryd.func15, Tryd.ntmps15
  go_upto_region 1 with (first | fail)
  generalize (w.alloc (.cells #[.int .i64 0, .int .i64 0, .slice none 0 0, .slice none 0 0, .slice none 0 0] 26)) = w0 at HO R0 ⊢
  by_cases ho : oe = 0
  rotate_left
  ·
    have hq : decE xs = oe := by rw [HE.out, if_pos ho]
    clear HE HR
    have d1oe : decide (oe = 0) = false := decide_eq_false ho
    have d2oe : (oe == 0) = false := beq_eq_false_iff_ne.mpr ho
    have d3oe : (oe != 0) = true := bne_iff_ne.mpr ho
    go_upto_region 2 with (first | (go_at_call 30; (with_reducible refine HO.out.mono ?_); rintro e w1 ⟨v, rfl, hoi⟩; have R1 := Aside0.mk (And.intro (blk_below R0.out.1 hoi.bel) (below_step R0.out.2 hoi.bel)); clear hoi))
    have s0 := (blk_cell R1.out.1 0).trans (show _ = some (.int .i64 0) from rfl)
    have s1 := (blk_cell R1.out.1 1).trans (show _ = some (.int .i64 0) from rfl)
    have s2 := (blk_cell R1.out.1 2).trans (show _ = some (.slice none 0 0) from rfl)
    have s3 := (blk_cell R1.out.1 3).trans (show _ = some (.slice none 0 0) from rfl)
    have s4 := (blk_cell R1.out.1 4).trans (show _ = some (.slice none 0 0) from rfl)
    have sf0 := blk_frozen R1.out.1 0
    have sf1 := blk_frozen R1.out.1 1
    have sf2 := blk_frozen R1.out.1 2
    have sf3 := blk_frozen R1.out.1 3
    have sf4 := blk_frozen R1.out.1 4
    go_wp2
    refine bodyPost_ret (results_ct rfl _ _ w.heap.size 26 #[.int .i64 0, .int .i64 0, .slice none 0 0, .slice none 0 0, .slice none 0 0] (0, 0) _ rfl (put5 (R1.out.1)) TT.out rfl (by kernel_rfl)) rfl ?_
    exact DA.no hq ho rfl (bel5 (R1.out.2) (Nat.le_refl _))
  ·
    subst ho
    go_upto_region 4 with (first | (go_at_call 30; (with_reducible refine HO.out.mono ?_); rintro e w1 ⟨v, rfl, hoi⟩; obtain ⟨A1, c1, rfl, hci⟩ := hoi.reads; have HB1 := Aside0.mk hoi.bel; have HRD := Aside0.mk (Wi.read_any hci HW.out HL.out); clear hci hoi HO))
    go_upto_region 5 with (first | (go_at_call 31; (with_reducible refine HRD.out.mono ?_); rintro e w2 ⟨g, rfl, hr, hb, hge⟩; have HB2 := Aside0.mk (And.intro hr (And.intro hb hge)); clear hr hb hge HRD))
    have H5 : DS w0 (w2.alloc (.cells #[.pointer (some ⟨g, 0, none⟩)] 62)) w2.heap.size g ⟨bs, 0⟩ := by
      have hb' := below_alloc (Below.refl w2.heap.size w2) (.cells #[.pointer (some ⟨g, 0, none⟩)] 62)
      exact ⟨⟨blk_new _ _, HB2.out.1.far hb'⟩, below_step (below_step HB1.out HB2.out.2.1) hb', Nat.le_trans HB1.out.size HB2.out.2.2⟩
    revert H5
    generalize (w2.alloc (.cells #[.pointer (some ⟨g, 0, none⟩)] 62)) = w3
    generalize w2.heap.size = rq
    intro H5
    have HD1 := Aside0.mk (H5.far (below_drew (Below.refl w3.heap.size w3)))
    clear H5 HB1 HB2
    have TS1 : Aside0 (w3.drew.cell? ⟨rq, 0, none⟩ = some (.pointer (some ⟨g, 0, none⟩))) := ⟨(blk_cell HD1.out.db.rq 0).trans (show _ = some _ from rfl)⟩
    refine start_ (n := 6) (S := (fun w' => w'.cell? ⟨rq, 0, none⟩ = some (.pointer (some ⟨g, 0, none⟩)))) (ds := []) #[false, false, false, false, false, false] (by kernel_rfl) rfl rfl TS1.out (fun hHeld => ?_)
    refine take_ (i := 0) (N := some 21) (v := ?_) (a' := ?_) #[true, false, false, false, false, false] rfl rfl (by kernel_rfl) (fun _ _ _ h => h) (Or.inl ⟨by rfl, ?_⟩) hHeld ?_ ?_
    rotate_left
    · intro w' hSw
      have s0 : w'.cell? ⟨rq, 0, none⟩ = some (.pointer (some ⟨g, 0, none⟩)) := hSw
      go_simp
      with_reducible rfl
    rotate_left
    · simp only [Act.put, List.setIfInBounds_toArray, List.set_cons_zero, List.set_cons_succ, i64_w, i32_w]
      rfl
    refine take_ (i := 2) (N := some 23) (v := ?_) (a' := ?_) #[true, false, true, false, false, false] rfl rfl (by kernel_rfl) (fun _ _ _ h => h) (Or.inl ⟨by rfl, ?_⟩) hHeld ?_ ?_
    rotate_left
    · intro w' hSw
      have s0 : w'.cell? ⟨rq, 0, none⟩ = some (.pointer (some ⟨g, 0, none⟩)) := hSw
      go_simp
      with_reducible rfl
    rotate_left
    · simp only [Act.put, List.setIfInBounds_toArray, List.set_cons_zero, List.set_cons_succ, i64_w, i32_w]
      rfl
    clear hHeld
    refine one_ (i := 1) (N := some 22) #[true, true, true, false, false, false] rfl rfl (by kernel_rfl) (by decide) (fun K hK => ?_)
    refine goes_ Tryd.func32 (by kernel_rfl) rfl #[.pointer (some ⟨g, 0, none⟩), .int .i64 1] (by rfl) rfl rfl (by (try simp only [List.map_toArray, List.map_cons, List.map_nil]); first | done | rfl | (simp only [List.length_drop, List.length_take]; rfl)) ?_
    (with_reducible refine (Wi.next_any HD1.out.db.rd 1).mono ?_)
    rintro e w5 ⟨rfl, hr, hgr⟩
    refine ⟨_, rfl, ?_⟩
    have HD2 := Aside0.mk (HD1.out.next hr hgr)
    clear hr hgr
    have TS2 : Aside0 (w5.cell? ⟨rq, 0, none⟩ = some (.pointer (some ⟨g, 0, none⟩))) := ⟨(blk_cell HD2.out.db.rq 0).trans (show _ = some _ from rfl)⟩
    refine hK.out _ _ TS2.out (fun hHeld => ?_)
    clear hK K
    refine norm_ (a' := ?_) ?_ ?_
    rotate_left
    · show Act.put _ (some 22) _ = _
      simp only [Act.put, List.setIfInBounds_toArray, List.set_cons_zero, List.set_cons_succ, i64_w, i32_w]
      rfl
    clear hHeld
    refine one_ (i := 3) (N := some 24) #[true, true, true, true, false, false] rfl rfl (by kernel_rfl) (by decide) (fun K hK => ?_)
    refine goes_ Tryd.func32 (by kernel_rfl) rfl #[.pointer (some ⟨g, 0, none⟩), .int .i64 1] (by rfl) rfl rfl (by (try simp only [List.map_toArray, List.map_cons, List.map_nil]); first | done | rfl | (simp only [List.length_drop, List.length_take]; rfl)) ?_
    (with_reducible refine (Wi.next_any HD2.out.db.rd 1).mono ?_)
    rintro e w6 ⟨rfl, hr, hgr⟩
    refine ⟨_, rfl, ?_⟩
    have HD3 := Aside0.mk (HD2.out.next hr hgr)
    clear hr hgr
    have TS3 : Aside0 (w6.cell? ⟨rq, 0, none⟩ = some (.pointer (some ⟨g, 0, none⟩))) := ⟨(blk_cell HD3.out.db.rq 0).trans (show _ = some _ from rfl)⟩
    refine hK.out _ _ TS3.out (fun hHeld => ?_)
    clear hK K
    refine norm_ (a' := ?_) ?_ ?_
    rotate_left
    · show Act.put _ (some 24) _ = _
      simp only [Act.put, List.setIfInBounds_toArray, List.set_cons_zero, List.set_cons_succ, i64_w, i32_w]
      rfl
    refine pure_ (i := 4) (N := some 7) (v := ?_) (a' := ?_) #[true, true, true, true, true, false] rfl rfl (by kernel_rfl) (fun _ _ _ h => h) (Or.inl ⟨by rfl, ?_⟩) ?_ ?_
    rotate_left
    · intro w'
      go_simp
      with_reducible rfl
    rotate_left
    · simp only [Act.put, List.setIfInBounds_toArray, List.set_cons_zero, List.set_cons_succ, i64_w, i32_w]
      rfl
    refine pure_ (i := 5) (N := some 8) (v := ?_) (a' := ?_) #[true, true, true, true, true, true] rfl rfl (by kernel_rfl) (fun _ _ _ h => h) (Or.inl ⟨by rfl, ?_⟩) ?_ ?_
    rotate_left
    · intro w'
      go_simp
      with_reducible rfl
    rotate_left
    · simp only [Act.put, List.setIfInBounds_toArray, List.set_cons_zero, List.set_cons_succ, i64_w, i32_w]
      rfl
    refine done_ (by kernel_rfl) ?_
    have q0 := TS3.out
    go_upto_region 7 with (first | (go_at_call 33; (with_reducible refine (Wi.err_any HD3.out.db.rd).mono ?_); rintro e w7 ⟨rfl, rfl⟩))
    clear HD1 HD2 TS1 TS2 TS3
    generalize Wi.nextV ⟨bs, 0⟩ 1 = f1 at HE ⊢
    generalize Wi.nextV (Wi.next ⟨bs, 0⟩ 1) 1 = f2 at HE ⊢
    generalize Wi.next (Wi.next ⟨bs, 0⟩ 1) 1 = rr at HD3 HE HR ⊢
    generalize rr.e = e2 at HE ⊢
    have R6 := Aside0.mk (And.intro (blk_below R0.out.1 HD3.out.bel) (below_step R0.out.2 HD3.out.bel))
    by_cases h2 : e2 = 0
    rotate_left
    ·
      have d1e2 : decide (e2 = 0) = false := decide_eq_false h2
      have d2e2 : (e2 == 0) = false := beq_eq_false_iff_ne.mpr h2
      have d3e2 : (e2 != 0) = true := bne_iff_ne.mpr h2
      have hq : decE xs = e2 := by rw [HE.out, if_neg (by simp), if_pos h2]
      clear q0 HE HR
      have s0 := (blk_cell R6.out.1 0).trans (show _ = some (.int .i64 0) from rfl)
      have s1 := (blk_cell R6.out.1 1).trans (show _ = some (.int .i64 0) from rfl)
      have s2 := (blk_cell R6.out.1 2).trans (show _ = some (.slice none 0 0) from rfl)
      have s3 := (blk_cell R6.out.1 3).trans (show _ = some (.slice none 0 0) from rfl)
      have s4 := (blk_cell R6.out.1 4).trans (show _ = some (.slice none 0 0) from rfl)
      have sf0 := blk_frozen R6.out.1 0
      have sf1 := blk_frozen R6.out.1 1
      have sf2 := blk_frozen R6.out.1 2
      have sf3 := blk_frozen R6.out.1 3
      have sf4 := blk_frozen R6.out.1 4
      go_wp2
      refine bodyPost_ret (results_ct rfl _ _ w.heap.size 26 #[.int .i64 0, .int .i64 0, .slice none 0 0, .slice none 0 0, .slice none 0 0] (0, 0) _ rfl (put5 (R6.out.1)) TT.out rfl (by kernel_rfl)) rfl ?_
      exact DA.no hq h2 rfl (bel5 (R6.out.2) (Nat.le_refl _))
    ·
      subst h2
      by_cases h3 : f1 = 231
      rotate_left
      ·
        have d1f1 : decide (f1 = 231) = false := decide_eq_false h3
        have d2f1 : (f1 == 231) = false := beq_eq_false_iff_ne.mpr h3
        have d3f1 : (f1 != 231) = true := bne_iff_ne.mpr h3
        have hq : decE xs = 8 := by rw [HE.out, if_neg (by simp), if_neg (by simp), if_pos h3]
        clear q0 HE HR
        have s0 := (blk_cell R6.out.1 0).trans (show _ = some (.int .i64 0) from rfl)
        have s1 := (blk_cell R6.out.1 1).trans (show _ = some (.int .i64 0) from rfl)
        have s2 := (blk_cell R6.out.1 2).trans (show _ = some (.slice none 0 0) from rfl)
        have s3 := (blk_cell R6.out.1 3).trans (show _ = some (.slice none 0 0) from rfl)
        have s4 := (blk_cell R6.out.1 4).trans (show _ = some (.slice none 0 0) from rfl)
        have sf0 := blk_frozen R6.out.1 0
        have sf1 := blk_frozen R6.out.1 1
        have sf2 := blk_frozen R6.out.1 2
        have sf3 := blk_frozen R6.out.1 3
        have sf4 := blk_frozen R6.out.1 4
        go_wp2
        refine bodyPost_ret (results_ct rfl _ _ w.heap.size 26 #[.int .i64 0, .int .i64 0, .slice none 0 0, .slice none 0 0, .slice none 0 0] (0, 0) _ rfl (put5 (R6.out.1)) TT.out rfl (by kernel_rfl)) rfl ?_
        exact DA.no hq (by decide) rfl (bel5 (R6.out.2) (Nat.le_refl _))
      ·
        subst h3
        by_cases h4 : f2 = 1
        rotate_left
        ·
          have d1f2 : decide (f2 = 1) = false := decide_eq_false h4
          have d2f2 : (f2 == 1) = false := beq_eq_false_iff_ne.mpr h4
          have d3f2 : (f2 != 1) = true := bne_iff_ne.mpr h4
          have hq : decE xs = 8 := by rw [HE.out, if_neg (by simp), if_neg (by simp), if_neg (by simp), if_pos h4]
          clear q0 HE HR
          have s0 := (blk_cell R6.out.1 0).trans (show _ = some (.int .i64 0) from rfl)
          have s1 := (blk_cell R6.out.1 1).trans (show _ = some (.int .i64 0) from rfl)
          have s2 := (blk_cell R6.out.1 2).trans (show _ = some (.slice none 0 0) from rfl)
          have s3 := (blk_cell R6.out.1 3).trans (show _ = some (.slice none 0 0) from rfl)
          have s4 := (blk_cell R6.out.1 4).trans (show _ = some (.slice none 0 0) from rfl)
          have sf0 := blk_frozen R6.out.1 0
          have sf1 := blk_frozen R6.out.1 1
          have sf2 := blk_frozen R6.out.1 2
          have sf3 := blk_frozen R6.out.1 3
          have sf4 := blk_frozen R6.out.1 4
          go_wp2
          refine bodyPost_ret (results_ct rfl _ _ w.heap.size 26 #[.int .i64 0, .int .i64 0, .slice none 0 0, .slice none 0 0, .slice none 0 0] (0, 0) _ rfl (put5 (R6.out.1)) TT.out rfl (by kernel_rfl)) rfl ?_
          exact DA.no hq (by decide) rfl (bel5 (R6.out.2) (Nat.le_refl _))
        ·
          subst h4
          have HAL := Aside0.mk (all_dec HD3.out.st)
          have HWR := Aside0.mk HD3.out.db.rd.wf
          clear q0
          go_upto_region 13 with (first | (go_at_call 22; (with_reducible refine HAL.out.mono ?_); rintro e w8 ⟨rfl, B2, B3, B4, hdc⟩; have HX := Aside0.mk (hdc.dx HWR.out); clear hdc HAL HD3))
          obtain ⟨c2, hc2⟩ : ∃ x, mW rr = x := ⟨_, rfl⟩
          obtain ⟨c3, hc3⟩ : ∃ x, mK rr = x := ⟨_, rfl⟩
          obtain ⟨c4, hc4⟩ : ∃ x, mA rr = x := ⟨_, rfl⟩
          rw [hc2, hc3, hc4] at HX
          clear hc2 hc3 hc4
          generalize w6.heap.size = cb at HX ⊢
          obtain ⟨C, hC⟩ : ∃ x, decC rr = x := ⟨_, rfl⟩
          rw [hC] at HX HE
          have HC := Aside0.mk hC
          clear hC
          generalize eA rr = rz at HX HE
          have q1 := (blk_cell HX.out.db.rq 0).trans (show _ = some (.pointer (some ⟨g, 0, none⟩)) from rfl)
          go_upto_region 14 with (first | (go_at_call 35; (with_reducible refine (Wi.end_any HX.out.db.rd).mono ?_); rintro e w9 ⟨rfl, rfl⟩))
          clear q1 R6
          generalize Wi.endE rz = re at HE ⊢
          have R8 := Aside0.mk (And.intro (blk_below R0.out.1 HX.out.bel) (below_step R0.out.2 HX.out.bel))
          by_cases h5 : re = 0
          rotate_left
          ·
            have d1re : decide (re = 0) = false := decide_eq_false h5
            have d2re : (re == 0) = false := beq_eq_false_iff_ne.mpr h5
            have d3re : (re != 0) = true := bne_iff_ne.mpr h5
            have hq : decE xs = re := by rw [HE.out, if_neg (by simp), if_neg (by simp), if_neg (by simp), if_neg (by simp), if_pos h5]
            clear HE HR
            have s0 := (blk_cell R8.out.1 0).trans (show _ = some (.int .i64 0) from rfl)
            have s1 := (blk_cell R8.out.1 1).trans (show _ = some (.int .i64 0) from rfl)
            have s2 := (blk_cell R8.out.1 2).trans (show _ = some (.slice none 0 0) from rfl)
            have s3 := (blk_cell R8.out.1 3).trans (show _ = some (.slice none 0 0) from rfl)
            have s4 := (blk_cell R8.out.1 4).trans (show _ = some (.slice none 0 0) from rfl)
            have sf0 := blk_frozen R8.out.1 0
            have sf1 := blk_frozen R8.out.1 1
            have sf2 := blk_frozen R8.out.1 2
            have sf3 := blk_frozen R8.out.1 3
            have sf4 := blk_frozen R8.out.1 4
            go_wp2
            refine bodyPost_ret (results_ct rfl _ _ w.heap.size 26 #[.int .i64 0, .int .i64 0, .slice none 0 0, .slice none 0 0, .slice none 0 0] (0, 0) _ rfl (put5 (R8.out.1)) TT.out rfl (by kernel_rfl)) rfl ?_
            exact DA.no hq h5 rfl (bel5 (R8.out.2) (Nat.le_refl _))
          ·
            subst h5
            have CC := Aside0.mk (check_any HX.out.cx (HG.out.below R8.out.2) (Nat.le_trans HX.out.hl.2.1 (by decide)) (Nat.le_trans HX.out.hl.2.2 (by decide)) (Nat.le_trans HX.out.hl.1 (by decide)))
            generalize (chk C).e = ec at CC HE
            generalize (chk C).a = ea at CC
            generalize (chk C).b = eb at CC
            have y0 := (blk_cell HX.out.bk 0).trans (show _ = some (.int .i64 C.p) from rfl)
            have y1 := (blk_cell HX.out.bk 1).trans (show _ = some (.int .i64 C.f) from rfl)
            have y2 := (blk_cell HX.out.bk 2).trans (show _ = some (.slice B2 C.ws.length c2) from rfl)
            have y3 := (blk_cell HX.out.bk 3).trans (show _ = some (.slice B3 C.ks.length c3) from rfl)
            have y4 := (blk_cell HX.out.bk 4).trans (show _ = some (.slice B4 C.ac.length c4) from rfl)
            go_upto_region 16 with (first | (go_at_call 20; (with_reducible refine CC.out.mono ?_); rintro e w9 ⟨rfl, hb⟩; have HB9 := Aside0.mk hb; clear hb CC))
            skip
            have R9 := Aside0.mk (And.intro (blk_below R8.out.1 HB9.out) (below_step R8.out.2 HB9.out))
            by_cases h6 : ec = 0
            rotate_left
            ·
              have d1ec : decide (ec = 0) = false := decide_eq_false h6
              have d2ec : (ec == 0) = false := beq_eq_false_iff_ne.mpr h6
              have d3ec : (ec != 0) = true := bne_iff_ne.mpr h6
              have hq : decE xs = ec := by rw [HE.out, if_neg (by simp), if_neg (by simp), if_neg (by simp), if_neg (by simp), if_neg (by simp)]
              clear HE HR
              have s0 := (blk_cell R9.out.1 0).trans (show _ = some (.int .i64 0) from rfl)
              have s1 := (blk_cell R9.out.1 1).trans (show _ = some (.int .i64 0) from rfl)
              have s2 := (blk_cell R9.out.1 2).trans (show _ = some (.slice none 0 0) from rfl)
              have s3 := (blk_cell R9.out.1 3).trans (show _ = some (.slice none 0 0) from rfl)
              have s4 := (blk_cell R9.out.1 4).trans (show _ = some (.slice none 0 0) from rfl)
              have sf0 := blk_frozen R9.out.1 0
              have sf1 := blk_frozen R9.out.1 1
              have sf2 := blk_frozen R9.out.1 2
              have sf3 := blk_frozen R9.out.1 3
              have sf4 := blk_frozen R9.out.1 4
              go_wp2
              refine bodyPost_ret (results_ct rfl _ _ w.heap.size 26 #[.int .i64 0, .int .i64 0, .slice none 0 0, .slice none 0 0, .slice none 0 0] (0, 0) _ rfl (put5 (R9.out.1)) TT.out rfl (by kernel_rfl)) rfl ?_
              exact DA.no hq h6 rfl (bel5 (R9.out.2) (Nat.le_refl _))
            ·
              subst h6
              have hq : decE xs = 0 := by rw [HE.out, if_neg (by simp), if_neg (by simp), if_neg (by simp), if_neg (by simp), if_neg (by simp)]
              clear HE
              have hlt := blk_lt R0.out.1
              have HBK := Aside0.mk (blk_below HX.out.bk HB9.out)
              have k0 := (blk_cell HBK.out 0).trans (show _ = some (.int .i64 C.p) from rfl)
              have k1 := (blk_cell HBK.out 1).trans (show _ = some (.int .i64 C.f) from rfl)
              have k2 := (blk_cell HBK.out 2).trans (show _ = some (.slice B2 C.ws.length c2) from rfl)
              have k3 := (blk_cell HBK.out 3).trans (show _ = some (.slice B3 C.ks.length c3) from rfl)
              have k4 := (blk_cell HBK.out 4).trans (show _ = some (.slice B4 C.ac.length c4) from rfl)
              have s0 := (blk_cell R9.out.1 0).trans (show _ = some (.int .i64 0) from rfl)
              have s1 := (blk_cell R9.out.1 1).trans (show _ = some (.int .i64 0) from rfl)
              have s2 := (blk_cell R9.out.1 2).trans (show _ = some (.slice none 0 0) from rfl)
              have s3 := (blk_cell R9.out.1 3).trans (show _ = some (.slice none 0 0) from rfl)
              have s4 := (blk_cell R9.out.1 4).trans (show _ = some (.slice none 0 0) from rfl)
              have sf0 := blk_frozen R9.out.1 0
              have sf1 := blk_frozen R9.out.1 1
              have sf2 := blk_frozen R9.out.1 2
              have sf3 := blk_frozen R9.out.1 3
              have sf4 := blk_frozen R9.out.1 4
              go_wp2
              refine bodyPost_ret (results_ct rfl _ _ w.heap.size 26 #[.int .i64 C.p, .int .i64 C.f, .slice B2 C.ws.length c2, .slice B3 C.ks.length c3, .slice B4 C.ac.length c4] (0, 0) _ rfl (put5 (R9.out.1)) TT.out rfl (by kernel_rfl)) rfl ?_
              exact DA.yes hq (by rw [HR.out]; exact HC.out) rfl (HX.out.mv _ (fun b h1 h2 => (off5 (by omega)).trans (HB9.out.block b h2))) (bel5 (R9.out.2) (Nat.le_refl _))
end Go.Proofs.YtdebbanloopcgaaDoor.Tb

/- Layer 5 (table): what is written is read again; what is read is written again (plain law). -/
set_option linter.unusedVariables false
set_option linter.unusedSimpArgs false
namespace Go.Proofs.YtdebbanloopcgaaDoor.Tb
open Go Go.RowKit Go.Proofs.YtdebbanloopcgaaDoorW.PrintWords Go.Proofs.YtdebbanloopcgaaDoorW.PrintLast Go.Proofs.YtdebbanloopcgaaDoorW.PrintMore Go.Proofs.YtdebbanloopcgaaDoor.Cz Go.Proofs.YtdebbanloopcgaaDoor.PTableWrites Go.Proofs.YtdebbanloopcgaaDoor.Cf
theorem itR_front (f : Wi.Rd → Wi.Rd) (r : Wi.Rd) : ∀ j, itR f r (j + 1) = itR f (f r) j
  | 0 => rfl
  | j + 1 => by
    show f (itR f r (j + 1)) = f (itR f (f r) j)
    rw [itR_front f r j]
theorem liR_front {α : Type} (f : Wi.Rd → Wi.Rd) (g : Wi.Rd → α) (r : Wi.Rd) : ∀ j, liR f g r (j + 1) = g r :: liR f g (f r) j
  | 0 => rfl
  | j + 1 => by
    show liR f g r (j + 1) ++ [g (itR f r (j + 1))] = g r :: (liR f g (f r) j ++ [g (itR f (f r) j)])
    rw [liR_front f g r j, itR_front]
    rfl
theorem back_list {α : Type} {f : Wi.Rd → Wi.Rd} {g : Wi.Rd → α} {enc : α → List Int} {P : α → Prop} (h : ∀ x t, P x → f ⟨enc x ++ t, 0⟩ = ⟨t, 0⟩ ∧ g ⟨enc x ++ t, 0⟩ = x) : ∀ (l : List α) (t : List Int), (∀ x ∈ l, P x) → itR f ⟨l.flatMap enc ++ t, 0⟩ l.length = ⟨t, 0⟩ ∧ liR f g ⟨l.flatMap enc ++ t, 0⟩ l.length = l
  | [], t, _ => ⟨rfl, rfl⟩
  | x :: l, t, hP => by
    have h1 := h x (l.flatMap enc ++ t) (hP x (List.mem_cons_self ..))
    have h2 := back_list h l t (fun y hy => hP y (List.mem_cons_of_mem _ hy))
    rw [List.flatMap_cons, List.append_assoc, List.length_cons, itR_front, liR_front, h1.1, h1.2, h2.1, h2.2]
    exact ⟨rfl, rfl⟩
theorem ownR_B {x : Int} (h0 : -1 ≤ x) (h1 : x < 255) : ownR (ownB x) = x := by
  unfold ownR ownB
  split <;> split <;> omega
theorem ownB_R {v : Int} (h0 : 0 ≤ v) (h1 : v < 256) : ownB (ownR v) = v := by
  unfold ownR ownB
  split <;> split <;> omega
theorem ownB_bd {x : Int} (h0 : -1 ≤ x) (h1 : x < 255) : 0 ≤ ownB x ∧ ownB x < 256 := by
  unfold ownB
  split <;> omega
theorem backW (x : S46) (t : List Int) (h : (-1 ≤ x.f0 ∧ x.f0 < 255) ∧ (0 ≤ x.f1 ∧ x.f1 < 256) ∧ (0 ≤ x.f2 ∧ x.f2 < 256)) : nxW ⟨encW x ++ t, 0⟩ = ⟨t, 0⟩ ∧ rdW ⟨encW x ++ t, 0⟩ = x := by
  have a := Wi.next_enc (put1 (ownB_bd h.1.1 h.1.2).1 (ownB_bd h.1.1 h.1.2).2) (Wi.putB 1 x.f1 ++ (Wi.putB 1 x.f2 ++ t))
  have b := Wi.next_enc (put1 h.2.1.1 h.2.1.2) (Wi.putB 1 x.f2 ++ t)
  have c := Wi.next_enc (put1 h.2.2.1 h.2.2.2) t
  have e : encW x ++ t = Wi.putB 1 (ownB x.f0) ++ (Wi.putB 1 x.f1 ++ (Wi.putB 1 x.f2 ++ t)) := by unfold encW; simp only [List.append_assoc]
  rw [e]
  unfold nxW rdW
  simp only [nx, a.1, a.2, b.1, b.2, c.1, c.2, ownR_B h.1.1 h.1.2, and_self]
theorem encK_eq (x : S57) (t : List Int) : encK x ++ t = Wi.putB 1 x.f0 ++ (Wi.putB 1 x.f1 ++ (Wi.putB 1 x.f2 ++ (Wi.putB 1 x.f3 ++ (Wi.putB 4 x.f4 ++ (Wi.putB 1 x.f5 ++ (Wi.putB 1 x.f6 ++ (Wi.putB 1 x.f7 ++ (Wi.putB 4 x.f8 ++ (Wi.putB 1 x.f9 ++ (Wi.putB 1 x.f10 ++ t)))))))))) := by
  unfold encK k1 k2
  simp only [List.flatMap_cons, List.flatMap_nil, List.append_assoc, List.append_nil, List.nil_append]
theorem backK (x : S57) (t : List Int) (h : (∀ u ∈ k1 x, 0 ≤ u ∧ u < 256) ∧ (0 ≤ x.f4 ∧ x.f4 < 4294967296) ∧ (∀ u ∈ k2 x, 0 ≤ u ∧ u < 256) ∧ (0 ≤ x.f8 ∧ x.f8 < 4294967296) ∧ (0 ≤ x.f9 ∧ x.f9 < 256) ∧ (0 ≤ x.f10 ∧ x.f10 < 256)) : nxK ⟨encK x ++ t, 0⟩ = ⟨t, 0⟩ ∧ rdK ⟨encK x ++ t, 0⟩ = x := by
  obtain ⟨h1, h4, h2, h8, h9, h10⟩ := h
  have q0 := h1 x.f0 (by simp [k1])
  have q1 := h1 x.f1 (by simp [k1])
  have q2 := h1 x.f2 (by simp [k1])
  have q3 := h1 x.f3 (by simp [k1])
  have q5 := h2 x.f5 (by simp [k2])
  have q6 := h2 x.f6 (by simp [k2])
  have q7 := h2 x.f7 (by simp [k2])
  rw [encK_eq]
  have a10 := Wi.next_enc (put1 h10.1 h10.2) t
  have a9 := Wi.next_enc (put1 h9.1 h9.2) (Wi.putB 1 x.f10 ++ t)
  have a8 := Wi.next_enc (put4 h8.1 h8.2) (Wi.putB 1 x.f9 ++ (Wi.putB 1 x.f10 ++ t))
  have a7 := Wi.next_enc (put1 q7.1 q7.2) (Wi.putB 4 x.f8 ++ (Wi.putB 1 x.f9 ++ (Wi.putB 1 x.f10 ++ t)))
  have a6 := Wi.next_enc (put1 q6.1 q6.2) (Wi.putB 1 x.f7 ++ (Wi.putB 4 x.f8 ++ (Wi.putB 1 x.f9 ++ (Wi.putB 1 x.f10 ++ t))))
  have a5 := Wi.next_enc (put1 q5.1 q5.2) (Wi.putB 1 x.f6 ++ (Wi.putB 1 x.f7 ++ (Wi.putB 4 x.f8 ++ (Wi.putB 1 x.f9 ++ (Wi.putB 1 x.f10 ++ t)))))
  have a4 := Wi.next_enc (put4 h4.1 h4.2) (Wi.putB 1 x.f5 ++ (Wi.putB 1 x.f6 ++ (Wi.putB 1 x.f7 ++ (Wi.putB 4 x.f8 ++ (Wi.putB 1 x.f9 ++ (Wi.putB 1 x.f10 ++ t))))))
  have a3 := Wi.next_enc (put1 q3.1 q3.2) (Wi.putB 4 x.f4 ++ (Wi.putB 1 x.f5 ++ (Wi.putB 1 x.f6 ++ (Wi.putB 1 x.f7 ++ (Wi.putB 4 x.f8 ++ (Wi.putB 1 x.f9 ++ (Wi.putB 1 x.f10 ++ t)))))))
  have a2 := Wi.next_enc (put1 q2.1 q2.2) (Wi.putB 1 x.f3 ++ (Wi.putB 4 x.f4 ++ (Wi.putB 1 x.f5 ++ (Wi.putB 1 x.f6 ++ (Wi.putB 1 x.f7 ++ (Wi.putB 4 x.f8 ++ (Wi.putB 1 x.f9 ++ (Wi.putB 1 x.f10 ++ t))))))))
  have a1 := Wi.next_enc (put1 q1.1 q1.2) (Wi.putB 1 x.f2 ++ (Wi.putB 1 x.f3 ++ (Wi.putB 4 x.f4 ++ (Wi.putB 1 x.f5 ++ (Wi.putB 1 x.f6 ++ (Wi.putB 1 x.f7 ++ (Wi.putB 4 x.f8 ++ (Wi.putB 1 x.f9 ++ (Wi.putB 1 x.f10 ++ t)))))))))
  have a0 := Wi.next_enc (put1 q0.1 q0.2) (Wi.putB 1 x.f1 ++ (Wi.putB 1 x.f2 ++ (Wi.putB 1 x.f3 ++ (Wi.putB 4 x.f4 ++ (Wi.putB 1 x.f5 ++ (Wi.putB 1 x.f6 ++ (Wi.putB 1 x.f7 ++ (Wi.putB 4 x.f8 ++ (Wi.putB 1 x.f9 ++ (Wi.putB 1 x.f10 ++ t))))))))))
  unfold nxK rdK kw
  simp only [nx, a0.1, a0.2, a1.1, a1.2, a2.1, a2.2, a3.1, a3.2, a4.1, a4.2, a5.1, a5.2, a6.1, a6.2, a7.1, a7.2, a8.1, a8.2, a9.1, a9.2, a10.1, a10.2, and_self]
theorem backA (x : Int) (t : List Int) (h : 0 ≤ x ∧ x < 256) : nxA ⟨Wi.putB 1 x ++ t, 0⟩ = ⟨t, 0⟩ ∧ rdA ⟨Wi.putB 1 x ++ t, 0⟩ = x := Wi.next_enc (put1 h.1 h.2) t
theorem back_C {C : Cfg} (h : RG C) : decC ⟨encC C, 0⟩ = C ∧ eA ⟨encC C, 0⟩ = ⟨[], 0⟩ := by
  have hw := h.w
  have hk := h.k
  have ha := h.a
  have a := Wi.next_enc (put1 h.p.1 h.p.2) (Wi.putB 1 C.f ++ (Wi.putB 1 C.ws.length ++ (C.ws.flatMap encW ++ (Wi.putB 1 C.ks.length ++ (C.ks.flatMap encK ++ (Wi.putB 1 C.ac.length ++ C.ac.flatMap (Wi.putB 1)))))))
  have b := Wi.next_enc (put1 h.f.1 h.f.2) (Wi.putB 1 C.ws.length ++ (C.ws.flatMap encW ++ (Wi.putB 1 C.ks.length ++ (C.ks.flatMap encK ++ (Wi.putB 1 C.ac.length ++ C.ac.flatMap (Wi.putB 1))))))
  have c := Wi.next_enc (put1 (u := (C.ws.length : Int)) (by omega) (by omega)) (C.ws.flatMap encW ++ (Wi.putB 1 C.ks.length ++ (C.ks.flatMap encK ++ (Wi.putB 1 C.ac.length ++ C.ac.flatMap (Wi.putB 1)))))
  have w := back_list backW C.ws (Wi.putB 1 C.ks.length ++ (C.ks.flatMap encK ++ (Wi.putB 1 C.ac.length ++ C.ac.flatMap (Wi.putB 1)))) h.ws
  have d := Wi.next_enc (put1 (u := (C.ks.length : Int)) (by omega) (by omega)) (C.ks.flatMap encK ++ (Wi.putB 1 C.ac.length ++ C.ac.flatMap (Wi.putB 1)))
  have k := back_list backK C.ks (Wi.putB 1 C.ac.length ++ C.ac.flatMap (Wi.putB 1)) h.ks
  have e := Wi.next_enc (put1 (u := (C.ac.length : Int)) (by omega) (by omega)) (C.ac.flatMap (Wi.putB 1))
  have v := back_list backA C.ac [] h.ac
  rw [List.append_nil] at v
  unfold encC
  obtain ⟨r, hr⟩ : ∃ r : Wi.Rd, (⟨Wi.putB 1 C.p ++ (Wi.putB 1 C.f ++ (Wi.putB 1 C.ws.length ++ (C.ws.flatMap encW ++ (Wi.putB 1 C.ks.length ++ (C.ks.flatMap encK ++ (Wi.putB 1 C.ac.length ++ C.ac.flatMap (Wi.putB 1))))))), 0⟩ : Wi.Rd) = r := ⟨_, rfl⟩
  rw [hr] at a ⊢
  have hd : dW r = ⟨C.ws.flatMap encW ++ (Wi.putB 1 C.ks.length ++ (C.ks.flatMap encK ++ (Wi.putB 1 C.ac.length ++ C.ac.flatMap (Wi.putB 1)))), 0⟩ := by
    show Wi.next (Wi.next (Wi.next r 1) 1) 1 = _
    rw [a.1, b.1, c.1]
  have hm : mW r = C.ws.length := by
    show (Wi.nextV (Wi.next (Wi.next r 1) 1) 1).toNat = _
    rw [a.1, b.1, c.2, Int.toNat_natCast]
  have he : eW r = ⟨Wi.putB 1 C.ks.length ++ (C.ks.flatMap encK ++ (Wi.putB 1 C.ac.length ++ C.ac.flatMap (Wi.putB 1))), 0⟩ := by
    show itR nxW (dW r) (mW r) = _
    rw [hd, hm]
    exact w.1
  have hmk : mK r = C.ks.length := by
    show (Wi.nextV (eW r) 1).toNat = _
    rw [he, d.2, Int.toNat_natCast]
  have hdk : dK r = ⟨C.ks.flatMap encK ++ (Wi.putB 1 C.ac.length ++ C.ac.flatMap (Wi.putB 1)), 0⟩ := by
    show Wi.next (eW r) 1 = _
    rw [he, d.1]
  have hek : eK r = ⟨Wi.putB 1 C.ac.length ++ C.ac.flatMap (Wi.putB 1), 0⟩ := by
    show itR nxK (dK r) (mK r) = _
    rw [hdk, hmk]
    exact k.1
  have hma : mA r = C.ac.length := by
    show (Wi.nextV (eK r) 1).toNat = _
    rw [hek, e.2, Int.toNat_natCast]
  have hda : dA r = ⟨C.ac.flatMap (Wi.putB 1), 0⟩ := by
    show Wi.next (eK r) 1 = _
    rw [hek, e.1]
  constructor
  · show Cfg.mk (Wi.nextV r 1) (Wi.nextV (Wi.next r 1) 1) (liR nxW rdW (dW r) (mW r)) (liR nxK rdK (dK r) (mK r)) (liR nxA rdA (dA r) (mA r)) = C
    rw [hd, hm, w.2, hdk, hmk, k.2, hda, hma, v.2, a.2, a.1, b.2]
  · show itR nxA (dA r) (mA r) = _
    rw [hda, hma]
    exact v.1
theorem r2_tab (C : Cfg) : Wi.nextV ⟨tabB C, 0⟩ 1 = 231 ∧ Wi.nextV (Wi.next ⟨tabB C, 0⟩ 1) 1 = 1 ∧ Wi.next (Wi.next ⟨tabB C, 0⟩ 1) 1 = ⟨encC C, 0⟩ := by
  have a := Wi.next_enc (n := 1) (v := 231) (by decide) (Wi.putB 1 1 ++ encC C)
  have b := Wi.next_enc (n := 1) (v := 1) (by decide) (encC C)
  have e : tabB C = Wi.putB 1 231 ++ (Wi.putB 1 1 ++ encC C) := rfl
  rw [e, a.1, a.2, b.1, b.2]
  exact ⟨rfl, rfl, rfl⟩
theorem seal_wi (ys : List Int) : sealB ys = Wi.sealB ys := rfl
/-- What is written is read again. -/
theorem dec_enc {C : Cfg} (h : okB C = true) : decE (sealB (tabB C)) = 0 ∧ decCf (sealB (tabB C)) = C := by
  obtain ⟨t1, t2, t3⟩ := r2_tab C
  obtain ⟨c1, c2⟩ := back_C (ok_rg h)
  have hr : r2 (sealB (tabB C)) = ⟨encC C, 0⟩ := by
    unfold r2
    rw [seal_wi, Wi.opB_seal, t3]
  have h0 : decE (sealB (tabB C)) = 0 := by
    unfold decE
    rw [hr, c1, c2]
    rw [seal_wi, Wi.opE_seal, Wi.opB_seal, t1, t2]
    rw [if_neg (by decide), if_neg (by simp), if_neg (by decide), if_neg (by decide), if_neg (by decide)]
    exact beq_iff_eq.1 h
  refine ⟨h0, ?_⟩
  unfold decCf
  rw [h0, if_pos rfl, hr]
  exact c1
theorem tab_inj {C D : Cfg} (hC : okB C = true) (hD : okB D = true) (h : sealB (tabB C) = sealB (tabB D)) : C = D := by rw [← (dec_enc hC).2, ← (dec_enc hD).2, h]
/-! Back. -/
theorem val_inj1 {xs : List Int} (h : Wi.WF xs) (hl : xs.length = 1) : Wi.putB 1 (Wi.valB xs) = xs := by
  rcases xs with _ | ⟨a, _ | ⟨b, t⟩⟩
  · simp at hl
  · have := h a (by simp)
    simp [Wi.putB, Wi.valB]
    omega
  · simp at hl
theorem val_inj4 {xs : List Int} (h : Wi.WF xs) (hl : xs.length = 4) : Wi.putB 4 (Wi.valB xs) = xs := by
  rcases xs with _ | ⟨a, _ | ⟨b, _ | ⟨c, _ | ⟨d, _ | ⟨e, t⟩⟩⟩⟩⟩
  · simp at hl
  · simp at hl
  · simp at hl
  · simp at hl
  · have := h a (by simp)
    have := h b (by simp)
    have := h c (by simp)
    have := h d (by simp)
    simp [Wi.putB, Wi.valB]
    omega
  · simp at hl
theorem next_inv {r : Wi.Rd} {n : Int} (hf : Wi.WF r.b) (hn : n = 1 ∨ n = 4) (h : (Wi.next r n).e = 0) : r.e = 0 ∧ r.b = Wi.putB n (Wi.nextV r n) ++ (Wi.next r n).b := by
  have hlim : Wi.lim n ≠ 0 := by rcases hn with rfl | rfl <;> decide
  unfold Wi.next at h ⊢
  unfold Wi.nextV
  by_cases h0 : r.e ≠ 0
  · rw [if_pos h0] at h
    exact absurd h h0
  · rw [if_neg h0, if_neg hlim] at h ⊢
    rw [if_neg h0, if_neg hlim]
    by_cases h1 : (r.b.length : Int) < n
    · rw [if_pos h1] at h
      exact absurd h (by decide)
    · rw [if_neg h1, if_neg h1]
      refine ⟨by simpa using h0, ?_⟩
      have hp : Wi.putB n (Wi.valB (r.b.take n.toNat)) = r.b.take n.toNat := by
        rcases hn with rfl | rfl
        · exact val_inj1 (hf.take _) (by rw [List.length_take]; omega)
        · exact val_inj4 (hf.take _) (by rw [List.length_take]; omega)
      rw [hp, List.take_append_drop]
def eL : List Int → List Int → List Int
  | n :: t, v :: vs => Wi.putB n v ++ eL t vs
  | _, _ => []
theorem nx_inv : ∀ {l : List Int} {r : Wi.Rd}, Wi.WF r.b → (∀ n ∈ l, n = 1 ∨ n = 4) → (nx r l).e = 0 → r.e = 0 ∧ r.b = eL l (vl r l) ++ (nx r l).b
  | [], r, _, _, h => ⟨h, rfl⟩
  | n :: t, r, hf, hn, h => by
    obtain ⟨h1, h2⟩ := nx_inv (l := t) (Wi.next_wf hf n) (fun m hm => hn m (List.mem_cons_of_mem _ hm)) h
    obtain ⟨h3, h4⟩ := next_inv hf (hn n (List.mem_cons_self ..)) h1
    refine ⟨h3, ?_⟩
    rw [h4, h2]
    show _ = (Wi.putB n (Wi.nextV r n) ++ eL t (vl (Wi.next r n) t)) ++ (nx (Wi.next r n) t).b
    rw [List.append_assoc]
theorem inv_list {α : Type} {f : Wi.Rd → Wi.Rd} {g : Wi.Rd → α} {enc : α → List Int} (h : ∀ r, Wi.WF r.b → (f r).e = 0 → r.e = 0 ∧ r.b = enc (g r) ++ (f r).b) (hw : ∀ r, Wi.WF r.b → Wi.WF (f r).b) : ∀ (j : Nat) (r : Wi.Rd), Wi.WF r.b → (itR f r j).e = 0 → r.e = 0 ∧ r.b = (liR f g r j).flatMap enc ++ (itR f r j).b
  | 0, r, _, he => ⟨he, rfl⟩
  | j + 1, r, hf, he => by
    rw [itR_front] at he ⊢
    rw [liR_front]
    obtain ⟨h1, h2⟩ := inv_list h hw j (f r) (hw r hf) he
    obtain ⟨h3, h4⟩ := h r hf h1
    refine ⟨h3, ?_⟩
    rw [h4, List.flatMap_cons, List.append_assoc, ← h2]
theorem invW (r : Wi.Rd) (hf : Wi.WF r.b) (h : (nxW r).e = 0) : r.e = 0 ∧ r.b = encW (rdW r) ++ (nxW r).b := by
  obtain ⟨h1, h2⟩ := nx_inv (l := [1, 1, 1]) hf (by decide) h
  refine ⟨h1, h2.trans ?_⟩
  have hb := nextV1_bd hf
  unfold encW rdW
  rw [ownB_R hb.1 hb.2]
  simp only [eL, vl, nx, List.append_nil]
  rfl
theorem invK (r : Wi.Rd) (hf : Wi.WF r.b) (h : (nxK r).e = 0) : r.e = 0 ∧ r.b = encK (rdK r) ++ (nxK r).b := by
  obtain ⟨h1, h2⟩ := nx_inv (l := kw) hf (by decide) h
  refine ⟨h1, h2.trans ?_⟩
  rw [encK_eq]
  unfold rdK nxK
  simp only [kw, eL, vl, nx, List.append_nil, List.append_assoc]
theorem invA (r : Wi.Rd) (hf : Wi.WF r.b) (h : (nxA r).e = 0) : r.e = 0 ∧ r.b = Wi.putB 1 (rdA r) ++ (nxA r).b := next_inv hf (Or.inl rfl) h
theorem inv_C {r : Wi.Rd} (hf : Wi.WF r.b) (h : (eA r).e = 0) : r.e = 0 ∧ r.b = encC (decC r) ++ (eA r).b := by
  have hw : Wi.WF (nx r [1, 1]).b := nx_wf hf
  have hwW : Wi.WF (dW r).b := nx_wf hf
  have hwK : Wi.WF (dK r).b := Wi.next_wf (eW_wf hf) 1
  have hwA : Wi.WF (dA r).b := Wi.next_wf (eK_wf hf) 1
  obtain ⟨a1, a2⟩ := inv_list invA (fun r h => Wi.next_wf h 1) (mA r) (dA r) hwA h
  obtain ⟨b1, b2⟩ := next_inv (eK_wf hf) (Or.inl rfl) a1
  obtain ⟨c1, c2⟩ := inv_list invK (fun r h => nx_wf h) (mK r) (dK r) hwK b1
  obtain ⟨d1, d2⟩ := next_inv (eW_wf hf) (Or.inl rfl) c1
  obtain ⟨e1, e2⟩ := inv_list invW (fun r h => nx_wf h) (mW r) (dW r) hwW d1
  obtain ⟨f1, f2⟩ := nx_inv (l := [1, 1, 1]) hf (by decide) e1
  refine ⟨f1, f2.trans ?_⟩
  have n1 := nextV1_bd hw
  have n2 := nextV1_bd (eW_wf hf)
  have n3 := nextV1_bd (eK_wf hf)
  have m1 : ((decC r).ws.length : Int) = Wi.nextV (nx r [1, 1]) 1 := by
    rw [show (decC r).ws.length = mW r from liR_len _]
    unfold mW
    omega
  have m2 : ((decC r).ks.length : Int) = Wi.nextV (eW r) 1 := by
    rw [show (decC r).ks.length = mK r from liR_len _]
    unfold mK
    omega
  have m3 : ((decC r).ac.length : Int) = Wi.nextV (eK r) 1 := by
    rw [show (decC r).ac.length = mA r from liR_len _]
    unfold mA
    omega
  unfold encC
  rw [m1, m2, m3]
  have q1 : (dW r).b = (decC r).ws.flatMap encW ++ (eW r).b := e2
  have q2 : (dK r).b = (decC r).ks.flatMap encK ++ (eK r).b := c2
  have q3 : (dA r).b = (decC r).ac.flatMap (Wi.putB 1) ++ (eA r).b := a2
  show eL [1, 1, 1] (vl r [1, 1, 1]) ++ (dW r).b = _
  rw [q1, d2, show (Wi.next (eW r) 1).b = (dK r).b from rfl, q2, b2, show (Wi.next (eK r) 1).b = (dA r).b from rfl, q3]
  simp only [eL, vl, nx, List.append_nil, List.append_assoc]
  rfl
/-- What is read is written again. -/
theorem dec_only {xs : List Int} (hf : Wi.WF xs) (h : decE xs = 0) : sealB (tabB (decCf xs)) = xs ∧ okB (decCf xs) = true := by
  have hc : decCf xs = decC (r2 xs) := by unfold decCf; rw [h, if_pos rfl]
  rw [hc]
  unfold decE at h
  by_cases h1 : Wi.opE xs = 0
  · rw [if_neg (by simpa using h1)] at h
    by_cases h2 : (r2 xs).e = 0
    · rw [if_neg (by simpa using h2)] at h
      by_cases h3 : Wi.nextV ⟨Wi.opB xs, 0⟩ 1 = 231
      · rw [if_neg (by simpa using h3)] at h
        by_cases h4 : Wi.nextV (Wi.next ⟨Wi.opB xs, 0⟩ 1) 1 = 1
        · rw [if_neg (by simpa using h4)] at h
          by_cases h5 : Wi.endE (eA (r2 xs)) = 0
          · rw [if_neg (by simpa using h5)] at h
            refine ⟨?_, beq_iff_eq.2 h⟩
            have ho : Wi.WF (Wi.opB xs) := by
              unfold Wi.opB
              rw [if_pos h1]
              exact hf.take _
            have h6 : (eA (r2 xs)).e = 0 ∧ (eA (r2 xs)).b = [] := by
              unfold Wi.endE at h5
              split at h5
              · omega
              · rename_i hn
                refine ⟨h5, ?_⟩
                have : ¬ 0 < (eA (r2 xs)).b.length := fun hp => hn ⟨h5, hp⟩
                exact List.length_eq_zero_iff.1 (by omega)
            obtain ⟨_, g2⟩ := inv_C (r2_wf hf) h6.1
            rw [h6.2, List.append_nil] at g2
            obtain ⟨i1, i2⟩ := next_inv (Wi.next_wf (r := ⟨Wi.opB xs, 0⟩) ho 1) (Or.inl rfl) h2
            obtain ⟨_, j2⟩ := next_inv (r := ⟨Wi.opB xs, 0⟩) ho (Or.inl rfl) i1
            have e : Wi.opB xs = tabB (decC (r2 xs)) := by
              have j3 : Wi.opB xs = _ := j2
              rw [i2, h3, h4, show (Wi.next (Wi.next ⟨Wi.opB xs, 0⟩ 1) 1).b = (r2 xs).b from rfl, g2] at j3
              exact j3
            rw [← e]
            have hopB : Wi.opB xs = xs.take (xs.length - 2) := by unfold Wi.opB; rw [if_pos h1]
            unfold Wi.opE at h1
            split at h1
            · omega
            · rename_i hlen
              split at h1
              · omega
              · rename_i hv
                rw [hopB]
                unfold sealB
                exact (Wi.seal_eq (m := xs.length - 2) hf (by omega)).2 (by simpa using hv)
          · rw [if_pos h5] at h
            exact absurd h h5
        · rw [if_pos h4] at h
          exact absurd h (by decide)
      · rw [if_pos h3] at h
        exact absurd h (by decide)
    · rw [if_pos h2] at h
      exact absurd h h2
  · rw [if_pos h1] at h
    exact absurd h h1
/-! Two configs. -/
theorem eqR_iff {α : Type} {d : α → α → Bool} (hd : ∀ x y, d x y = false ↔ x = y) : ∀ {xs ys : List α}, xs.length = ys.length → (eqR d xs ys = true ↔ xs = ys)
  | [], [], _ => by simp [eqR]
  | [], _ :: _, h => by simp at h
  | _ :: _, [], h => by simp at h
  | x :: xs, y :: ys, h => by
    have ih := eqR_iff hd (xs := xs) (ys := ys) (by simpa using h)
    unfold eqR
    cases hxy : d x y
    · rw [if_neg (by decide), ih, (hd x y).1 hxy]
      simp
    · rw [if_pos rfl]
      constructor
      · intro h; cases h
      · intro h
        have := (hd x y).2 (List.cons.inj h).1
        rw [hxy] at this
        cases this
theorem eqL_iff {α : Type} {d : α → α → Bool} (hd : ∀ x y, d x y = false ↔ x = y) {xs ys : List α} : eqL d xs ys = true ↔ xs = ys := by
  unfold eqL
  by_cases h : xs.length = ys.length
  · rw [if_pos h]
    exact eqR_iff hd h
  · rw [if_neg h]
    constructor
    · intro h; cases h
    · intro e; exact absurd (congrArg List.length e) h
theorem n46_iff (x y : S46) : n46 x y = false ↔ x = y := by
  cases x; cases y
  simp [n46]
theorem n57_iff (x y : S57) : n57 x y = false ↔ x = y := by
  cases x; cases y
  simp [n57]
theorem nI_iff (x y : Int) : nI x y = false ↔ x = y := by simp [nI]
theorem sB_iff {C D : Cfg} : sB C D = true ↔ C = D := by
  constructor
  · intro h
    unfold sB at h
    split at h
    · split at h
      · split at h
        · split at h
          · rename_i h1 h2 h3 h4
            have e2 := (eqL_iff n46_iff).1 h3
            have e3 := (eqL_iff n57_iff).1 h4
            have e4 := (eqL_iff nI_iff).1 h
            obtain ⟨p, f, ws, ks, ac⟩ := C
            obtain ⟨p', f', ws', ks', ac'⟩ := D
            simp only [] at h1 h2 e2 e3 e4
            rw [h1, h2, e2, e3, e4]
          · cases h
        · cases h
      · cases h
    · cases h
  · intro h
    rw [h]
    exact sB_refl D
theorem ok_ac {C : Cfg} (h : okB C = true) : (C.ac.length : Int) = C.p := by
  obtain ⟨_, h2⟩ := chk_two (beq_iff_eq.1 h)
  unfold ls at h2
  split at h2
  · cases h2
  · split at h2
    · cases h2
    · split at h2
      · cases h2
      · split at h2
        · cases h2
        · rename_i h3
          exact Decidable.of_not_not h3
end Go.Proofs.YtdebbanloopcgaaDoor.Tb

/- Layer 5 (table): Size, Count, the document's example. -/
set_option linter.unusedVariables false
set_option linter.unusedSimpArgs false
namespace Go.Proofs.YtdebbanloopcgaaDoor.Tb
open Go Go.RowKit Go.Proofs.YtdebbanloopcgaaDoorW.PrintWords Go.Proofs.YtdebbanloopcgaaDoorW.PrintLast Go.Proofs.YtdebbanloopcgaaDoorW.PrintMore Go.Proofs.YtdebbanloopcgaaDoor.Cz Go.Proofs.YtdebbanloopcgaaDoor.PTableWrites Go.Proofs.YtdebbanloopcgaaDoor.Cf
attribute [local go_sem] max2_int min2_int max_two min_two max_three min_three max_four min_four Tryd.underlying26 Tryd.underlying46 Tryd.underlying57
/-- A config's bytes, or none. -/
def encB (C : Cfg) : List Int := if okB C = true then sealB (tabB C) else []
theorem encB_wf (C : Cfg) : Wi.WF (encB C) := by
  unfold encB
  split
  · exact (tabB_wf C).app (Wi.WF.putB _ _)
  · exact Wi.WF.nil
theorem seal_len {C : Cfg} (h : okB C = true) : (sealB (tabB C)).length = 9 + 3 * C.ws.length + 17 * C.ks.length + C.ac.length := by
  unfold sealB
  rw [List.length_append, tabB_len (ok_rg h), show (Wi.putB 2 (Wi.sumB (tabB C))).length = 2 from rfl]
  omega
theorem encB_len (C : Cfg) : (encB C).length ≤ 200 := by
  unfold encB
  split
  · rename_i h
    have hr := ok_rg h
    have := hr.w
    have := hr.k
    have := hr.a
    rw [seal_len h]
    omega
  · exact Nat.zero_le _
set_option maxHeartbeats 16000000 in
set_option maxRecDepth 100000 in
theorem size_any {C : Cfg} {A2 A3 A4 : Option Addr} {c2 c3 c4 : Nat} {w : World} (hX : CX w C A2 c2 A3 c3 A4 c4) (hg : LG w) (lk : C.ks.length ≤ 1000) (la : C.ac.length ≤ 1000) (lw : C.ws.length ≤ 1000) :
    Calls Tryd.prog 13 #[.agg #[.int .i64 C.p, .int .i64 C.f, .slice A2 C.ws.length c2, .slice A3 C.ks.length c3, .slice A4 C.ac.length c4]] w fun e w' => e = .returned (.int .i64 ((encB C).length : Nat)) ∧ Below w.heap.size w w' := by
  have R1 := Aside0.mk (And.intro (blk_new w (.cells #[.int .i64 C.p, .int .i64 C.f, .slice A2 C.ws.length c2, .slice A3 C.ks.length c3, .slice A4 C.ac.length c4] 26)) (below_alloc (Below.refl w.heap.size w) (.cells #[.int .i64 C.p, .int .i64 C.f, .slice A2 C.ws.length c2, .slice A3 C.ks.length c3, .slice A4 C.ac.length c4] 26)))
  have EN := Aside0.mk (encode_any (hX.below R1.out.2) (hg.below R1.out.2) lk la lw)
  rw [show (if okB C = true then sealB (tabB C) else []) = encB C from rfl] at EN
  generalize encB C = bs at EN ⊢
  clear hX hg
  have b0 := (blk_cell R1.out.1 0).trans (show _ = some (.int .i64 C.p) from rfl)
  have b1 := (blk_cell R1.out.1 1).trans (show _ = some (.int .i64 C.f) from rfl)
  have b2 := (blk_cell R1.out.1 2).trans (show _ = some (.slice A2 C.ws.length c2) from rfl)
  have b3 := (blk_cell R1.out.1 3).trans (show _ = some (.slice A3 C.ks.length c3) from rfl)
  have b4 := (blk_cell R1.out.1 4).trans (show _ = some (.slice A4 C.ac.length c4) from rfl)
  go_enter Tryd.func13, Tryd.ntmps13
  go_wp2_with (first | (go_at_call 11; (with_reducible refine EN.out.mono ?_); rintro e w2 ⟨r, rfl, ho⟩; obtain ⟨A, c, rfl, hci⟩ := ho.reads; have HB := Aside0.mk (below_step R1.out.2 ho.bel); clear hci ho b0 b1 b2 b3 b4))
  go_ret
  exact ⟨rfl, HB.out⟩
set_option maxHeartbeats 16000000 in
set_option maxRecDepth 100000 in
theorem count_any {A : Option Addr} {c : Nat} {xs : List Int} {w : World} (h : Wi.CI .u8 w A c xs) (hf : Wi.WF xs) (hl : xs.length ≤ 900) (hg : LG w) :
    Calls Tryd.prog 19 #[.slice A xs.length c] w fun e w' => e = .returned (.tuple #[.int .i64 ((decCf xs).ws.length : Nat), .int .i64 ((decCf xs).ks.length : Nat), .int .i64 ((decCf xs).ac.length : Nat), .int .i64 (decE xs)]) ∧ Below w.heap.size w w' := by
  have hd := decode_any h hf hl hg
  unfold DA at hd
  generalize decCf xs = D at hd ⊢
  generalize decE xs = er at hd ⊢
  have HD := Aside0.mk hd
  clear h hf hl hg hd
  go_enter Tryd.func19, Tryd.ntmps19
  go_upto_region 2 with (first | (go_at_call 15; (with_reducible refine HD.out.mono ?_); rintro e w2 ⟨B2, d2, B3, d3, B4, d4, rfl, hx, hb⟩; have HB := Aside0.mk hb; clear hx hb))
  have R2 := Aside0.mk (And.intro (blk_new w2 (.cells #[.int .i64 D.p, .int .i64 D.f, .slice B2 D.ws.length d2, .slice B3 D.ks.length d3, .slice B4 D.ac.length d4] 26)) (below_step HB.out (below_alloc (Below.refl w2.heap.size w2) (.cells #[.int .i64 D.p, .int .i64 D.f, .slice B2 D.ws.length d2, .slice B3 D.ks.length d3, .slice B4 D.ac.length d4] 26))))
  clear HB HD
  revert R2
  generalize (w2.alloc (.cells #[.int .i64 D.p, .int .i64 D.f, .slice B2 D.ws.length d2, .slice B3 D.ks.length d3, .slice B4 D.ac.length d4] 26)) = w3
  generalize w2.heap.size = q
  intro R2
  have s0 := (blk_cell R2.out.1 0).trans (show _ = some (.int .i64 D.p) from rfl)
  have s1 := (blk_cell R2.out.1 1).trans (show _ = some (.int .i64 D.f) from rfl)
  have s2 := (blk_cell R2.out.1 2).trans (show _ = some (.slice B2 D.ws.length d2) from rfl)
  have s3 := (blk_cell R2.out.1 3).trans (show _ = some (.slice B3 D.ks.length d3) from rfl)
  have s4 := (blk_cell R2.out.1 4).trans (show _ = some (.slice B4 D.ac.length d4) from rfl)
  have TS := Aside0.mk (fun (W : World) (hb : Below w3.heap.size w3 W) => And.intro (cell_b s2 hb) (And.intro (cell_b s3 hb) (cell_b s4 hb)))
  refine start_ (n := 14) (S := (fun w' => w'.cell? ⟨q, 2, none⟩ = some (.slice B2 D.ws.length d2) ∧ w'.cell? ⟨q, 3, none⟩ = some (.slice B3 D.ks.length d3) ∧ w'.cell? ⟨q, 4, none⟩ = some (.slice B4 D.ac.length d4))) (ds := []) #[false, false, false, false, false, false, false, false, false, false, false, false, false, false] (by kernel_rfl) rfl rfl (TS.out _ (below_drew (Below.refl _ _))) (fun hHeld => ?_)
  refine pure_ (i := 0) (N := some 13) (v := ?_) (a' := ?_) #[true, false, false, false, false, false, false, false, false, false, false, false, false, false] rfl rfl (by kernel_rfl) (fun _ _ _ h => h) (Or.inl ⟨by rfl, ?_⟩) ?_ ?_
  rotate_left
  · intro w'
    go_simp
    with_reducible rfl
  rotate_left
  · simp only [Act.put, List.setIfInBounds_toArray, List.set_cons_zero, List.set_cons_succ, i64_w, i32_w]
    rfl
  refine take_ (i := 1) (N := some 14) (v := ?_) (a' := ?_) #[true, true, false, false, false, false, false, false, false, false, false, false, false, false] rfl rfl (by kernel_rfl) (fun _ _ _ h => h) (Or.inl ⟨by rfl, ?_⟩) hHeld ?_ ?_
  rotate_left
  · intro w' hSw
    obtain ⟨s2, s3, s4⟩ := hSw
    go_simp
    with_reducible rfl
  rotate_left
  · simp only [Act.put, List.setIfInBounds_toArray, List.set_cons_zero, List.set_cons_succ, i64_w, i32_w]
    rfl
  refine pure_ (i := 2) (N := some 15) (v := ?_) (a' := ?_) #[true, true, true, false, false, false, false, false, false, false, false, false, false, false] rfl rfl (by kernel_rfl) (fun _ _ _ h => h) (Or.inl ⟨by rfl, ?_⟩) ?_ ?_
  rotate_left
  · intro w'
    go_simp
    with_reducible rfl
  rotate_left
  · simp only [Act.put, List.setIfInBounds_toArray, List.set_cons_zero, List.set_cons_succ, i64_w, i32_w]
    rfl
  refine pure_ (i := 3) (N := some 16) (v := ?_) (a' := ?_) #[true, true, true, true, false, false, false, false, false, false, false, false, false, false] rfl rfl (by kernel_rfl) (fun _ _ _ h => h) (Or.inl ⟨by rfl, ?_⟩) ?_ ?_
  rotate_left
  · intro w'
    go_simp
    with_reducible rfl
  rotate_left
  · simp only [Act.put, List.setIfInBounds_toArray, List.set_cons_zero, List.set_cons_succ, i64_w, i32_w]
    rfl
  refine take_ (i := 4) (N := some 17) (v := ?_) (a' := ?_) #[true, true, true, true, true, false, false, false, false, false, false, false, false, false] rfl rfl (by kernel_rfl) (fun _ _ _ h => h) (Or.inl ⟨by rfl, ?_⟩) hHeld ?_ ?_
  rotate_left
  · intro w' hSw
    obtain ⟨s2, s3, s4⟩ := hSw
    go_simp
    with_reducible rfl
  rotate_left
  · simp only [Act.put, List.setIfInBounds_toArray, List.set_cons_zero, List.set_cons_succ, i64_w, i32_w]
    rfl
  refine pure_ (i := 5) (N := some 18) (v := ?_) (a' := ?_) #[true, true, true, true, true, true, false, false, false, false, false, false, false, false] rfl rfl (by kernel_rfl) (fun _ _ _ h => h) (Or.inl ⟨by rfl, ?_⟩) ?_ ?_
  rotate_left
  · intro w'
    go_simp
    with_reducible rfl
  rotate_left
  · simp only [Act.put, List.setIfInBounds_toArray, List.set_cons_zero, List.set_cons_succ, i64_w, i32_w]
    rfl
  refine pure_ (i := 6) (N := some 19) (v := ?_) (a' := ?_) #[true, true, true, true, true, true, true, false, false, false, false, false, false, false] rfl rfl (by kernel_rfl) (fun _ _ _ h => h) (Or.inl ⟨by rfl, ?_⟩) ?_ ?_
  rotate_left
  · intro w'
    go_simp
    with_reducible rfl
  rotate_left
  · simp only [Act.put, List.setIfInBounds_toArray, List.set_cons_zero, List.set_cons_succ, i64_w, i32_w]
    rfl
  refine take_ (i := 7) (N := some 20) (v := ?_) (a' := ?_) #[true, true, true, true, true, true, true, true, false, false, false, false, false, false] rfl rfl (by kernel_rfl) (fun _ _ _ h => h) (Or.inl ⟨by rfl, ?_⟩) hHeld ?_ ?_
  rotate_left
  · intro w' hSw
    obtain ⟨s2, s3, s4⟩ := hSw
    go_simp
    with_reducible rfl
  rotate_left
  · simp only [Act.put, List.setIfInBounds_toArray, List.set_cons_zero, List.set_cons_succ, i64_w, i32_w]
    rfl
  refine pure_ (i := 8) (N := some 21) (v := ?_) (a' := ?_) #[true, true, true, true, true, true, true, true, true, false, false, false, false, false] rfl rfl (by kernel_rfl) (fun _ _ _ h => h) (Or.inl ⟨by rfl, ?_⟩) ?_ ?_
  rotate_left
  · intro w'
    go_simp
    with_reducible rfl
  rotate_left
  · simp only [Act.put, List.setIfInBounds_toArray, List.set_cons_zero, List.set_cons_succ, i64_w, i32_w]
    rfl
  refine pure_ (i := 9) (N := some 22) (v := ?_) (a' := ?_) #[true, true, true, true, true, true, true, true, true, true, false, false, false, false] rfl rfl (by kernel_rfl) (fun _ _ _ h => h) (Or.inl ⟨by rfl, ?_⟩) ?_ ?_
  rotate_left
  · intro w'
    go_simp
    with_reducible rfl
  rotate_left
  · simp only [Act.put, List.setIfInBounds_toArray, List.set_cons_zero, List.set_cons_succ, i64_w, i32_w]
    rfl
  refine pure_ (i := 10) (N := some 2) (v := ?_) (a' := ?_) #[true, true, true, true, true, true, true, true, true, true, true, false, false, false] rfl rfl (by kernel_rfl) (fun _ _ _ h => h) (Or.inl ⟨by rfl, ?_⟩) ?_ ?_
  rotate_left
  · intro w'
    go_simp
    with_reducible rfl
  rotate_left
  · simp only [Act.put, List.setIfInBounds_toArray, List.set_cons_zero, List.set_cons_succ, i64_w, i32_w]
    rfl
  refine pure_ (i := 11) (N := some 3) (v := ?_) (a' := ?_) #[true, true, true, true, true, true, true, true, true, true, true, true, false, false] rfl rfl (by kernel_rfl) (fun _ _ _ h => h) (Or.inl ⟨by rfl, ?_⟩) ?_ ?_
  rotate_left
  · intro w'
    go_simp
    with_reducible rfl
  rotate_left
  · simp only [Act.put, List.setIfInBounds_toArray, List.set_cons_zero, List.set_cons_succ, i64_w, i32_w]
    rfl
  refine pure_ (i := 12) (N := some 4) (v := ?_) (a' := ?_) #[true, true, true, true, true, true, true, true, true, true, true, true, true, false] rfl rfl (by kernel_rfl) (fun _ _ _ h => h) (Or.inl ⟨by rfl, ?_⟩) ?_ ?_
  rotate_left
  · intro w'
    go_simp
    with_reducible rfl
  rotate_left
  · simp only [Act.put, List.setIfInBounds_toArray, List.set_cons_zero, List.set_cons_succ, i64_w, i32_w]
    rfl
  refine pure_ (i := 13) (N := some 5) (v := ?_) (a' := ?_) #[true, true, true, true, true, true, true, true, true, true, true, true, true, true] rfl rfl (by kernel_rfl) (fun _ _ _ h => h) (Or.inl ⟨by rfl, ?_⟩) ?_ ?_
  rotate_left
  · intro w'
    go_simp
    with_reducible rfl
  rotate_left
  · simp only [Act.put, List.setIfInBounds_toArray, List.set_cons_zero, List.set_cons_succ, i64_w, i32_w]
    rfl
  refine done_ (by kernel_rfl) ?_
  go_wp2
  refine bodyPost_ret (by simp [results]; rfl) rfl ?_
  exact ⟨rfl, below_drew R2.out.2⟩
/-- The example. -/
def c0 : Cfg := ⟨1, 4, [⟨0, 0, 4⟩], [], [0]⟩
theorem c0_ok : okB c0 = true := by kernel_rfl
theorem c0_chk : (chk c0).e = 0 := by kernel_rfl
theorem c0_len : (encB c0).length = 13 := by
  unfold encB
  rw [if_pos c0_ok, seal_len c0_ok]
  rfl
set_option maxHeartbeats 16000000 in
set_option maxRecDepth 100000 in
theorem lives_any {w : World} (hg : LG w) : Calls Tryd.prog 9 #[] w fun e w' => e = .returned (.bool true) ∧ Below w.heap.size w w' := by
  have HG := Aside0.mk hg
  clear hg
  go_enter Tryd.func9, Tryd.ntmps9
  go_upto_region 2 with (first | fail)
  have hl1 : LV w (((w.alloc (.cells #[.int .i64 0, .int .i64 0, .int .i64 4] 46)).alloc (.cells #[.int .i64 0] 3)).alloc (.cells #[.int .i64 1, .int .i64 4, .slice (some ⟨w.heap.size, 0, none⟩) 1 1, .slice none 0 0, .slice (some ⟨w.heap.size + 1, 0, none⟩) 1 1] 26)) 0 :=
    ⟨blk_alloc (blk_alloc (blk_new _ _) _) _, blk_alloc (by simpa using heap_alloc_new (w.alloc (.cells #[.int .i64 0, .int .i64 0, .int .i64 4] 46)) (.cells #[.int .i64 0] 3)) _, by simpa using heap_alloc_new ((w.alloc (.cells #[.int .i64 0, .int .i64 0, .int .i64 4] 46)).alloc (.cells #[.int .i64 0] 3)) (.cells #[.int .i64 1, .int .i64 4, .slice (some ⟨w.heap.size, 0, none⟩) 1 1, .slice none 0 0, .slice (some ⟨w.heap.size + 1, 0, none⟩) 1 1] 26), below_alloc (below_alloc (below_alloc (Below.refl _ _) _) _) _⟩
  revert hl1
  generalize (((w.alloc (.cells #[.int .i64 0, .int .i64 0, .int .i64 4] 46)).alloc (.cells #[.int .i64 0] 3)).alloc (.cells #[.int .i64 1, .int .i64 4, .slice (some ⟨w.heap.size, 0, none⟩) 1 1, .slice none 0 0, .slice (some ⟨w.heap.size + 1, 0, none⟩) 1 1] 26)) = W1
  intro hl1
  have l0 := (blk_cell hl1.b2 0).trans (show _ = some (.int .i64 1) from rfl)
  have l1 := (blk_cell hl1.b2 1).trans (show _ = some (.int .i64 4) from rfl)
  have l2 := (blk_cell hl1.b2 2).trans (show _ = some (.slice (some ⟨w.heap.size, 0, none⟩) 1 1) from rfl)
  have l3 := (blk_cell hl1.b2 3).trans (show _ = some (.slice none 0 0) from rfl)
  have l4 := (blk_cell hl1.b2 4).trans (show _ = some (.slice (some ⟨w.heap.size + 1, 0, none⟩) 1 1) from rfl)
  have L1 := Aside0.mk hl1
  clear hl1
  have EN : Aside0 (Calls Tryd.prog 11 #[.agg #[.int .i64 1, .int .i64 4, .slice (some ⟨w.heap.size, 0, none⟩) 1 1, .slice none 0 0, .slice (some ⟨w.heap.size + 1, 0, none⟩) 1 1]] W1 fun e w' => ∃ r, e = .returned (.tuple #[r, .int .i64 0]) ∧ Wi.OI .u8 5 W1 w' r (encB c0)) := ⟨by
    have h := encode_any L1.out.cx (HG.out.below L1.out.bel) (by decide) (by decide) (by decide)
    rw [show (chk ⟨1, 4, [⟨0, 0, 4⟩], [], [0]⟩).e = 0 from c0_chk] at h
    exact h⟩
  go_upto_region 3 with (first | (go_at_call 11; (with_reducible refine EN.out.mono ?_); rintro e w2 ⟨r, rfl, ho⟩; obtain ⟨A, c, rfl, hci⟩ := ho.reads; have HB := Aside0.mk ho.bel; have HC := Aside0.mk hci; clear hci ho l0 l1 l2 l3 l4))
  have L2 := Aside0.mk (L1.out.far HB.out)
  clear L1 EN
  have DN : Aside0 (Calls Tryd.prog 15 #[.slice A (encB c0).length c] w2 fun e w' => ∃ B2 d2 B3 d3 B4 d4, e = .returned (.tuple #[.agg #[.int .i64 1, .int .i64 4, .slice B2 1 d2, .slice B3 0 d3, .slice B4 1 d4], .int .i64 0]) ∧ CX w' c0 B2 d2 B3 d3 B4 d4 ∧ Below w2.heap.size w2 w') := ⟨by
    have h := decode_any HC.out (encB_wf c0) (Nat.le_trans (encB_len c0) (by decide)) (HG.out.below L2.out.bel)
    have e1 := dec_enc c0_ok
    rw [show sealB (tabB c0) = encB c0 by unfold encB; rw [if_pos c0_ok]] at e1
    unfold DA at h
    rw [e1.1, e1.2] at h
    exact h⟩
  rw [c0_len] at DN ⊢
  go_upto_region 4 with (first | (go_at_call 15; (with_reducible refine DN.out.mono ?_); rintro e w3 ⟨B2, d2, B3, d3, B4, d4, rfl, hx, hb⟩; have HX := Aside0.mk (And.intro hx hb); clear hx hb))
  have h4 : LV w (w3.alloc (.cells #[.int .i64 1, .int .i64 4, .slice B2 1 d2, .slice B3 0 d3, .slice B4 1 d4] 26)) 0 ∧ CX (w3.alloc (.cells #[.int .i64 1, .int .i64 4, .slice B2 1 d2, .slice B3 0 d3, .slice B4 1 d4] 26)) c0 B2 d2 B3 d3 B4 d4 ∧ (w3.alloc (.cells #[.int .i64 1, .int .i64 4, .slice B2 1 d2, .slice B3 0 d3, .slice B4 1 d4] 26)).heap[w3.heap.size]? = some (.cells #[.int .i64 1, .int .i64 4, .slice B2 1 d2, .slice B3 0 d3, .slice B4 1 d4] 26 (0, 0)) := by
    have hb' := below_alloc (Below.refl w3.heap.size w3) (.cells #[.int .i64 1, .int .i64 4, .slice B2 1 d2, .slice B3 0 d3, .slice B4 1 d4] 26)
    exact ⟨(L2.out.far HX.out.2).far hb', HX.out.1.below hb', blk_new _ _⟩
  clear L2 HX DN HC HB
  revert h4
  generalize (w3.alloc (.cells #[.int .i64 1, .int .i64 4, .slice B2 1 d2, .slice B3 0 d3, .slice B4 1 d4] 26)) = w4
  generalize w3.heap.size = qd
  intro h4
  have L4 := Aside0.mk h4
  clear h4
  have l0 := (blk_cell L4.out.1.b2 0).trans (show _ = some (.int .i64 1) from rfl)
  have l1 := (blk_cell L4.out.1.b2 1).trans (show _ = some (.int .i64 4) from rfl)
  have l2 := (blk_cell L4.out.1.b2 2).trans (show _ = some (.slice (some ⟨w.heap.size, 0, none⟩) 1 1) from rfl)
  have l3 := (blk_cell L4.out.1.b2 3).trans (show _ = some (.slice none 0 0) from rfl)
  have l4 := (blk_cell L4.out.1.b2 4).trans (show _ = some (.slice (some ⟨w.heap.size + 1, 0, none⟩) 1 1) from rfl)
  have x0 := (blk_cell L4.out.2.2 0).trans (show _ = some (.int .i64 1) from rfl)
  have x1 := (blk_cell L4.out.2.2 1).trans (show _ = some (.int .i64 4) from rfl)
  have x2 := (blk_cell L4.out.2.2 2).trans (show _ = some (.slice B2 1 d2) from rfl)
  have x3 := (blk_cell L4.out.2.2 3).trans (show _ = some (.slice B3 0 d3) from rfl)
  have x4 := (blk_cell L4.out.2.2 4).trans (show _ = some (.slice B4 1 d4) from rfl)
  have SA : Aside0 (Calls Tryd.prog 16 #[.agg #[.int .i64 1, .int .i64 4, .slice (some ⟨w.heap.size, 0, none⟩) 1 1, .slice none 0 0, .slice (some ⟨w.heap.size + 1, 0, none⟩) 1 1], .agg #[.int .i64 1, .int .i64 4, .slice B2 1 d2, .slice B3 0 d3, .slice B4 1 d4]] w4 fun e w' => e = .returned (.bool true) ∧ Below w4.heap.size w4 w') := ⟨by
    have h := rsame_any (C := c0) (D := c0) L4.out.1.cx L4.out.2.1 (by decide) (by decide) (by decide)
    rw [sB_refl] at h
    exact h⟩
  have SZA : Aside0 (∀ W, Below w4.heap.size w4 W → Calls Tryd.prog 13 #[.agg #[.int .i64 1, .int .i64 4, .slice (some ⟨w.heap.size, 0, none⟩) 1 1, .slice none 0 0, .slice (some ⟨w.heap.size + 1, 0, none⟩) 1 1]] W fun e w' => e = .returned (.int .i64 13) ∧ Below W.heap.size W w') := ⟨fun W hb => by
    have h := size_any (C := c0) (L4.out.1.far hb).cx (HG.out.below (below_step L4.out.1.bel hb)) (by decide) (by decide) (by decide)
    rw [c0_len] at h
    exact h⟩
  go_wp2_with (first | (go_at_call 16; (with_reducible refine SA.out.mono ?_); rintro e w5 ⟨rfl, hb⟩; have HB5 := Aside0.mk hb; have L5 := Aside0.mk (L4.out.1.far hb); clear hb l0 l1 l2 l3 l4 x0 x1 x2 x3 x4; have l0 := (blk_cell L5.out.b2 0).trans (show _ = some (.int .i64 1) from rfl); have l1 := (blk_cell L5.out.b2 1).trans (show _ = some (.int .i64 4) from rfl); have l2 := (blk_cell L5.out.b2 2).trans (show _ = some (.slice (some ⟨w.heap.size, 0, none⟩) 1 1) from rfl); have l3 := (blk_cell L5.out.b2 3).trans (show _ = some (.slice none 0 0) from rfl); have l4 := (blk_cell L5.out.b2 4).trans (show _ = some (.slice (some ⟨w.heap.size + 1, 0, none⟩) 1 1) from rfl)) | (go_at_call 13; (with_reducible refine (SZA.out _ HB5.out).mono ?_); rintro e w6 ⟨rfl, hb⟩; have HB6 := Aside0.mk hb; clear hb))
  go_ret
  exact ⟨rfl, below_step L5.out.bel HB6.out⟩
end Go.Proofs.YtdebbanloopcgaaDoor.Tb
