/- Layer 5 (table): the document's Decode. -/
import Derived.Test.YtdebbanloopcgaaDoorTbRb
import Derived.Test.YtdebbanloopcgaaDoorTbQ3
import Derived.Test.YtdebbanloopcgaaDoorRm
import Derived.Deep.RegionHeld3
set_option linter.unusedVariables false
set_option linter.unusedSimpArgs false
namespace Go.Proofs.YtdebbanloopcgaaDoor.Tb
open Go Go.RowKit Go.Proofs.YtdebbanloopcgaaDoorW.PrintWords Go.Proofs.YtdebbanloopcgaaDoorW.PrintLast Go.Proofs.YtdebbanloopcgaaDoorW.PrintMore Go.Proofs.YtdebbanloopcgaaDoor.Cz Go.Proofs.YtdebbanloopcgaaDoor.PTableWrites Go.Proofs.YtdebbanloopcgaaDoor.Cf
attribute [local go_sem] max2_int min2_int max_two min_two max_three min_three max_four min_four Tryd.underlying69 Tryd.underlying71 Tryd.underlying26
theorem chk_ok (C : Cfg) : (chk C).e = if okB C = true then 0 else 4 := by
  have h : ∀ C : Cfg, (chk C).e = 0 ∨ (chk C).e = 4 := fun C => by
    unfold chk
    split
    · exact Or.inr rfl
    · split
      · exact Or.inr rfl
      · exact Or.inl rfl
  by_cases hc : okB C = true
  · rw [if_pos hc]
    exact beq_iff_eq.1 hc
  · rw [if_neg hc]
    rcases h C with h | h
    · exact absurd (beq_iff_eq.2 h) hc
    · exact h
set_option maxHeartbeats 16000000 in
set_option maxRecDepth 100000 in
theorem rdecode_any {A : Option Addr} {c : Nat} {xs : List Int} {w : World} (h : Wi.CI .u8 w A c xs) (hf : Wi.WF xs) (hl : xs.length ≤ 900) :
    Calls Tryd.prog 18 #[.slice A xs.length c] w fun e w' => DA w w' xs e := by
  have HO := Aside0.mk (Wi.rOpen_any (h.below (below_alloc (Below.refl w.heap.size w) (.cells #[.int .i64 0, .int .i64 0, .slice none 0 0, .slice none 0 0, .slice none 0 0] 26))) hf hl)
  have R0 := Aside0.mk (And.intro (blk_new w (.cells #[.int .i64 0, .int .i64 0, .slice none 0 0, .slice none 0 0, .slice none 0 0] 26)) (below_alloc (Below.refl w.heap.size w) (.cells #[.int .i64 0, .int .i64 0, .slice none 0 0, .slice none 0 0, .slice none 0 0] 26)))
  have TT := Aside0.mk Tryd.underlying26
  have HW := Aside0.mk (opB_wf hf)
  have HE : Aside0 (decE xs = if Wi.opE xs ≠ 0 then Wi.opE xs else if (Wi.next (Wi.next ⟨Wi.opB xs, 0⟩ 1) 1).e ≠ 0 then (Wi.next (Wi.next ⟨Wi.opB xs, 0⟩ 1) 1).e else if Wi.nextV ⟨Wi.opB xs, 0⟩ 1 ≠ 231 then 8 else if Wi.nextV (Wi.next ⟨Wi.opB xs, 0⟩ 1) 1 ≠ 1 then 8 else if Wi.endE (eA (Wi.next (Wi.next ⟨Wi.opB xs, 0⟩ 1) 1)) ≠ 0 then Wi.endE (eA (Wi.next (Wi.next ⟨Wi.opB xs, 0⟩ 1) 1)) else (chk (decC (Wi.next (Wi.next ⟨Wi.opB xs, 0⟩ 1) 1))).e) := ⟨rfl⟩
  have HR : Aside0 (r2 xs = (Wi.next (Wi.next ⟨Wi.opB xs, 0⟩ 1) 1)) := ⟨rfl⟩
  clear h hf hl
  generalize Wi.opE xs = oe at HO HE
  generalize Wi.opB xs = bs at HO HE HR HW
  go_enter Tryd.func18, Tryd.ntmps18
  go_upto_region 1 with (first | fail)
  generalize (w.alloc (.cells #[.int .i64 0, .int .i64 0, .slice none 0 0, .slice none 0 0, .slice none 0 0] 26)) = w0 at HO R0 ⊢
  by_cases ho : oe = 0
  rotate_left
  ·
    have hq : decE xs = oe := by rw [HE.out, if_pos ho]
    clear HE HR
    have d1oe : decide (oe = 0) = false := decide_eq_false ho
    have d2oe : (oe == 0) = false := beq_eq_false_iff_ne.mpr ho
    have d3oe : (oe != 0) = true := bne_iff_ne.mpr ho
    go_upto_region 2 with (first | (go_at_call 39; (with_reducible refine HO.out.mono ?_); rintro e w1 ⟨A1, c1, rfl, hci, hb⟩; have HB1 := Aside0.mk hb; have HC1 := Aside0.mk hci; clear hb hci))
    have s0 := (blk_cell (blk_below R0.out.1 HB1.out) 0).trans (show _ = some (.int .i64 0) from rfl)
    have s1 := (blk_cell (blk_below R0.out.1 HB1.out) 1).trans (show _ = some (.int .i64 0) from rfl)
    have s2 := (blk_cell (blk_below R0.out.1 HB1.out) 2).trans (show _ = some (.slice none 0 0) from rfl)
    have s3 := (blk_cell (blk_below R0.out.1 HB1.out) 3).trans (show _ = some (.slice none 0 0) from rfl)
    have s4 := (blk_cell (blk_below R0.out.1 HB1.out) 4).trans (show _ = some (.slice none 0 0) from rfl)
    have sf0 := blk_frozen (blk_below R0.out.1 HB1.out) 0
    have sf1 := blk_frozen (blk_below R0.out.1 HB1.out) 1
    have sf2 := blk_frozen (blk_below R0.out.1 HB1.out) 2
    have sf3 := blk_frozen (blk_below R0.out.1 HB1.out) 3
    have sf4 := blk_frozen (blk_below R0.out.1 HB1.out) 4
    go_wp2
    refine bodyPost_ret (results_ct rfl _ _ w.heap.size 26 #[.int .i64 0, .int .i64 0, .slice none 0 0, .slice none 0 0, .slice none 0 0] (0, 0) _ rfl (put5 (blk_below R0.out.1 HB1.out)) TT.out rfl (by kernel_rfl)) rfl ?_
    exact DA.no hq ho rfl (bel5 (below_step R0.out.2 HB1.out) (Nat.le_refl _))
  ·
    subst ho
    go_upto_region 4 with (first | (go_at_call 39; (with_reducible refine HO.out.mono ?_); rintro e w1 ⟨A1, c1, rfl, hci, hb⟩; have HB1 := Aside0.mk hb; have HC1 := Aside0.mk hci; clear hb hci))
    clear HO
    have HCR : Aside0 (Wi.CI .u8 w0 A1 c1 (⟨bs, 0⟩ : Wi.Rd).b) := ⟨HC1.out⟩
    go_upto_region 5 with (first | ((with_reducible refine gate_dst (N := 23) rfl ?_); refine Wi.lit_ints (k := .i64) (e := 3) ?hg (N := 23) ?hd [1, 1] #[.int .i64 1, .int .i64 1] ?hr ?hi ?hm ?_; (case hd => rfl); (case hg => rfl); (case hr => first | (go_simp; done) | (go_simp; rfl)); (case hi => rfl); (case hm => simp); intro D wl hC hO; have HC : Aside0 (Wi.CI .i64 wl D 2 [1, 1]) := ⟨hC⟩; have HBL := Aside0.mk (below_step HB1.out hO.bel); have TKC := Aside0.mk (take_lit (n := 2) HCR.out HW.out HBL.out HC.out (by decide) rfl (by decide)); clear hC hO HC) | (go_at_call 40; (with_reducible refine TKC.out.mono ?_); rintro e w5 ⟨A5, c5, g5, cg5, rfl, hc5, ho5, hg5⟩; have H5 := Aside0.mk (And.intro hc5 (And.intro ho5 (below_step HBL.out ho5.bel))); clear hc5 ho5 hg5 TKC))
    have hba := below_alloc (Below.refl w5.heap.size w5) (.cells #[.slice A5 (nx ⟨bs, 0⟩ [1, 1]).b.length c5, .int .i64 (nx ⟨bs, 0⟩ [1, 1]).e, .slice (some ⟨g5, 0, none⟩) 2 cg5] 71)
    have h6 : LK w0 (w5.alloc (.cells #[.slice A5 (nx ⟨bs, 0⟩ [1, 1]).b.length c5, .int .i64 (nx ⟨bs, 0⟩ [1, 1]).e, .slice (some ⟨g5, 0, none⟩) 2 cg5] 71)) ⟨w5.heap.size, g5, cg5, 2, vl ⟨bs, 0⟩ [1, 1]⟩ := ⟨⟨_, _, blk_new _ _⟩, (H5.out.2.1.less HBL.out).far hba, H5.out.2.2.size⟩
    have H6 := Aside0.mk (And.intro h6 (And.intro (blk_new w5 (.cells #[.slice A5 (nx ⟨bs, 0⟩ [1, 1]).b.length c5, .int .i64 (nx ⟨bs, 0⟩ [1, 1]).e, .slice (some ⟨g5, 0, none⟩) 2 cg5] 71)) (And.intro (below_step H5.out.2.2 hba) H5.out.1)))
    clear h6 hba H5 HBL HB1 HC1 HCR
    generalize (w5.alloc (.cells #[.slice A5 (nx ⟨bs, 0⟩ [1, 1]).b.length c5, .int .i64 (nx ⟨bs, 0⟩ [1, 1]).e, .slice (some ⟨g5, 0, none⟩) 2 cg5] 71)) = w6 at H6 ⊢
    generalize w5.heap.size = q6 at H6 ⊢
    obtain ⟨rr, hrr⟩ : ∃ x, Wi.next (Wi.next ⟨bs, 0⟩ 1) 1 = x := ⟨_, rfl⟩
    have hrn : nx ⟨bs, 0⟩ [1, 1] = rr := hrr
    rw [hrn] at H6
    rw [hrr] at HE HR
    have HWR : Aside0 (Wi.WF rr.b) := ⟨by rw [← hrr]; exact Wi.next_wf (Wi.next_wf HW.out 1) 1⟩
    clear hrr hrn
    obtain ⟨f1, hf1⟩ : ∃ x, Wi.nextV ⟨bs, 0⟩ 1 = x := ⟨_, rfl⟩
    obtain ⟨f2, hf2⟩ : ∃ x, Wi.nextV (Wi.next ⟨bs, 0⟩ 1) 1 = x := ⟨_, rfl⟩
    obtain ⟨l6, hl6⟩ : ∃ x, vl ⟨bs, 0⟩ [1, 1] = x := ⟨_, rfl⟩
    have EL : Aside0 (rd l6 (0 : Nat) = f1 ∧ rd l6 (1 : Nat) = f2) := ⟨by rw [← hl6, ← hf1, ← hf2]; exact ⟨rfl, rfl⟩⟩
    rw [hl6] at H6
    rw [hf1, hf2] at HE
    clear hl6 hf1 hf2
    have x0 := (blk_cell H6.out.2.1 0).trans (show _ = some (.slice A5 rr.b.length c5) from rfl)
    have x1 := (blk_cell H6.out.2.1 1).trans (show _ = some (.int .i64 rr.e) from rfl)
    have x2 := (blk_cell H6.out.2.1 2).trans (show _ = some (.slice (some ⟨g5, 0, none⟩) 2 cg5) from rfl)
    have e0 : w6.cell? ⟨g5, 0, none⟩ = some (.int .i64 f1) := (H6.out.1.cell (i := 0) (show 0 < 2 by decide)).trans (by rw [show rd _ _ = f1 from EL.out.1])
    have e1 : w6.cell? ⟨g5, 1, none⟩ = some (.int .i64 f2) := (H6.out.1.cell (i := 1) (show 1 < 2 by decide)).trans (by rw [show rd _ _ = f2 from EL.out.2])
    obtain ⟨e2, he2⟩ : ∃ x, rr.e = x := ⟨_, rfl⟩
    have HRE := Aside0.mk he2
    rw [he2] at HE x1
    clear he2
    by_cases h2 : e2 = 0
    rotate_left
    ·
      have d1e2 : decide (e2 = 0) = false := decide_eq_false h2
      have d2e2 : (e2 == 0) = false := beq_eq_false_iff_ne.mpr h2
      have d3e2 : (e2 != 0) = true := bne_iff_ne.mpr h2
      have hq : decE xs = e2 := by rw [HE.out, if_neg (by simp), if_pos h2]
      clear HE HR
      go_upto_region 6 with (first | fail)
      have HBD := Aside0.mk (below_drew H6.out.2.2.1)
      have HXD := Aside0.mk (blk_drew H6.out.2.1)
      have x1d := (blk_cell HXD.out 1).trans (show _ = some (.int .i64 rr.e) from rfl)
      rw [HRE.out] at x1d
      refine start_ (n := 6) (S := (fun w' => w'.cell? ⟨q6, 1, none⟩ = some (.int .i64 e2))) (ds := []) #[false, false, false, false, false, false] (by kernel_rfl) rfl rfl x1d (fun hHeld => ?_)
      generalize w6.drew = W9 at HBD HXD hHeld ⊢
      refine pure_ (i := 0) (N := some 29) (v := ?_) (a' := ?_) #[true, false, false, false, false, false] rfl rfl (by kernel_rfl) (fun _ _ _ h => h) (Or.inl ⟨by rfl, ?_⟩) ?_ ?_
      rotate_left
      · intro w'
        go_simp
        with_reducible rfl
      rotate_left
      · simp only [Act.put, List.setIfInBounds_toArray, List.set_cons_zero, List.set_cons_succ, i64_w, i32_w]
        rfl
      refine pure_ (i := 1) (N := some 30) (v := ?_) (a' := ?_) #[true, true, false, false, false, false] rfl rfl (by kernel_rfl) (fun _ _ _ h => h) (Or.inl ⟨by rfl, ?_⟩) ?_ ?_
      rotate_left
      · intro w'
        go_simp
        with_reducible rfl
      rotate_left
      · simp only [Act.put, List.setIfInBounds_toArray, List.set_cons_zero, List.set_cons_succ, i64_w, i32_w]
        rfl
      refine pure_ (i := 2) (N := some 31) (v := ?_) (a' := ?_) #[true, true, true, false, false, false] rfl rfl (by kernel_rfl) (fun _ _ _ h => h) (Or.inl ⟨by rfl, ?_⟩) ?_ ?_
      rotate_left
      · intro w'
        go_simp
        with_reducible rfl
      rotate_left
      · simp only [Act.put, List.setIfInBounds_toArray, List.set_cons_zero, List.set_cons_succ, i64_w, i32_w]
        rfl
      refine take_ (i := 3) (N := some 32) (v := ?_) (a' := ?_) #[true, true, true, true, false, false] rfl rfl (by kernel_rfl) (fun _ _ _ h => h) (Or.inl ⟨by rfl, ?_⟩) hHeld ?_ ?_
      rotate_left
      · intro w' hSw
        have x1 : w'.cell? ⟨q6, 1, none⟩ = some (.int .i64 e2) := hSw
        go_simp
        with_reducible rfl
      rotate_left
      · simp only [Act.put, List.setIfInBounds_toArray, List.set_cons_zero, List.set_cons_succ, i64_w, i32_w]
        rfl
      clear hHeld
      refine one_ (i := 4) (N := none) #[true, true, true, true, true, false] rfl rfl (by kernel_rfl) (by decide) (fun K hK => ?_)
      have s0 := (blk_cell (blk_below R0.out.1 HBD.out) 0).trans (show _ = some (.int .i64 0) from rfl)
      have s1 := (blk_cell (blk_below R0.out.1 HBD.out) 1).trans (show _ = some (.int .i64 0) from rfl)
      have s2 := (blk_cell (blk_below R0.out.1 HBD.out) 2).trans (show _ = some (.slice none 0 0) from rfl)
      have s3 := (blk_cell (blk_below R0.out.1 HBD.out) 3).trans (show _ = some (.slice none 0 0) from rfl)
      have s4 := (blk_cell (blk_below R0.out.1 HBD.out) 4).trans (show _ = some (.slice none 0 0) from rfl)
      have sf0 := blk_frozen (blk_below R0.out.1 HBD.out) 0
      have sf1 := blk_frozen (blk_below R0.out.1 HBD.out) 1
      have sf2 := blk_frozen (blk_below R0.out.1 HBD.out) 2
      have sf3 := blk_frozen (blk_below R0.out.1 HBD.out) 3
      have sf4 := blk_frozen (blk_below R0.out.1 HBD.out) 4
      refine skip_ (w1 := ?_) (by rfl) rfl ?_ ?_
      rotate_left
      · go_simp
        rfl
      have hqq := blk_ne HXD.out (blk_below R0.out.1 HBD.out) (by decide)
      have x1e : (((((W9.setCell ⟨w.heap.size, 0, none⟩ (.int .i64 0)).setCell ⟨w.heap.size, 1, none⟩ (.int .i64 0)).setCell ⟨w.heap.size, 2, none⟩ (.slice none 0 0)).setCell ⟨w.heap.size, 3, none⟩ (.slice none 0 0)).setCell ⟨w.heap.size, 4, none⟩ (.slice none 0 0)).cell? ⟨q6, 1, none⟩ = some (.int .i64 e2) := (blk_cell ((off5 hqq).trans HXD.out) 1).trans (by rw [← HRE.out]; rfl)
      refine hK.out _ _ x1e (fun hHeld => ?_)
      clear hK K s0 s1 s2 s3 s4 sf0 sf1 sf2 sf3 sf4
      refine pure_ (i := 5) (N := some 3) (v := ?_) (a' := ?_) #[true, true, true, true, true, true] rfl rfl (by kernel_rfl) (fun _ _ _ h => h) (Or.inl ⟨by rfl, ?_⟩) ?_ ?_
      rotate_left
      · intro w'
        go_simp
        with_reducible rfl
      rotate_left
      · simp only [Act.put, List.setIfInBounds_toArray, List.set_cons_zero, List.set_cons_succ, i64_w, i32_w]
        rfl
      refine done_ (by kernel_rfl) ?_
      go_wp2
      refine bodyPost_ret (results_ct rfl _ _ w.heap.size 26 #[.int .i64 0, .int .i64 0, .slice none 0 0, .slice none 0 0, .slice none 0 0] (0, 0) _ rfl (put5 (blk_below R0.out.1 HBD.out)) TT.out rfl (by kernel_rfl)) rfl ?_
      exact DA.no hq h2 rfl (bel5 (below_step R0.out.2 HBD.out) (Nat.le_refl _))
    ·
      subst h2
      by_cases h3 : f1 = 231
      rotate_left
      ·
        have d1f1 : decide (f1 = 231) = false := decide_eq_false h3
        have d2f1 : (f1 == 231) = false := beq_eq_false_iff_ne.mpr h3
        have d3f1 : (f1 != 231) = true := bne_iff_ne.mpr h3
        have hq : decE xs = 8 := by rw [HE.out, if_neg (by simp), if_neg (by simp), if_pos h3]
        clear HE HR
        have s0 := (blk_cell (blk_below R0.out.1 H6.out.2.2.1) 0).trans (show _ = some (.int .i64 0) from rfl)
        have s1 := (blk_cell (blk_below R0.out.1 H6.out.2.2.1) 1).trans (show _ = some (.int .i64 0) from rfl)
        have s2 := (blk_cell (blk_below R0.out.1 H6.out.2.2.1) 2).trans (show _ = some (.slice none 0 0) from rfl)
        have s3 := (blk_cell (blk_below R0.out.1 H6.out.2.2.1) 3).trans (show _ = some (.slice none 0 0) from rfl)
        have s4 := (blk_cell (blk_below R0.out.1 H6.out.2.2.1) 4).trans (show _ = some (.slice none 0 0) from rfl)
        have sf0 := blk_frozen (blk_below R0.out.1 H6.out.2.2.1) 0
        have sf1 := blk_frozen (blk_below R0.out.1 H6.out.2.2.1) 1
        have sf2 := blk_frozen (blk_below R0.out.1 H6.out.2.2.1) 2
        have sf3 := blk_frozen (blk_below R0.out.1 H6.out.2.2.1) 3
        have sf4 := blk_frozen (blk_below R0.out.1 H6.out.2.2.1) 4
        go_wp2
        refine bodyPost_ret (results_ct rfl _ _ w.heap.size 26 #[.int .i64 0, .int .i64 0, .slice none 0 0, .slice none 0 0, .slice none 0 0] (0, 0) _ rfl (put5 (blk_below R0.out.1 H6.out.2.2.1)) TT.out rfl (by kernel_rfl)) rfl ?_
        exact DA.no hq (by decide) rfl (bel5 (below_step R0.out.2 H6.out.2.2.1) (Nat.le_refl _))
      ·
        subst h3
        by_cases h4 : f2 = 1
        rotate_left
        ·
          have d1f2 : decide (f2 = 1) = false := decide_eq_false h4
          have d2f2 : (f2 == 1) = false := beq_eq_false_iff_ne.mpr h4
          have d3f2 : (f2 != 1) = true := bne_iff_ne.mpr h4
          have hq : decE xs = 8 := by rw [HE.out, if_neg (by simp), if_neg (by simp), if_neg (by simp), if_pos h4]
          clear HE HR
          have s0 := (blk_cell (blk_below R0.out.1 H6.out.2.2.1) 0).trans (show _ = some (.int .i64 0) from rfl)
          have s1 := (blk_cell (blk_below R0.out.1 H6.out.2.2.1) 1).trans (show _ = some (.int .i64 0) from rfl)
          have s2 := (blk_cell (blk_below R0.out.1 H6.out.2.2.1) 2).trans (show _ = some (.slice none 0 0) from rfl)
          have s3 := (blk_cell (blk_below R0.out.1 H6.out.2.2.1) 3).trans (show _ = some (.slice none 0 0) from rfl)
          have s4 := (blk_cell (blk_below R0.out.1 H6.out.2.2.1) 4).trans (show _ = some (.slice none 0 0) from rfl)
          have sf0 := blk_frozen (blk_below R0.out.1 H6.out.2.2.1) 0
          have sf1 := blk_frozen (blk_below R0.out.1 H6.out.2.2.1) 1
          have sf2 := blk_frozen (blk_below R0.out.1 H6.out.2.2.1) 2
          have sf3 := blk_frozen (blk_below R0.out.1 H6.out.2.2.1) 3
          have sf4 := blk_frozen (blk_below R0.out.1 H6.out.2.2.1) 4
          go_wp2
          refine bodyPost_ret (results_ct rfl _ _ w.heap.size 26 #[.int .i64 0, .int .i64 0, .slice none 0 0, .slice none 0 0, .slice none 0 0] (0, 0) _ rfl (put5 (blk_below R0.out.1 H6.out.2.2.1)) TT.out rfl (by kernel_rfl)) rfl ?_
          exact DA.no hq (by decide) rfl (bel5 (below_step R0.out.2 H6.out.2.2.1) (Nat.le_refl _))
        ·
          subst h4
          have RDC := Aside0.mk (rread_any H6.out.2.2.2 HWR.out H6.out.2.2.1)
          obtain ⟨C, hC⟩ : ∃ x, decC rr = x := ⟨_, rfl⟩
          obtain ⟨rz, hrz⟩ : ∃ x, eA rr = x := ⟨_, rfl⟩
          have HLC : Aside0 (C.ws.length ≤ 1000 ∧ C.ks.length ≤ 1000 ∧ C.ac.length ≤ 1000) := ⟨by
            have e2 : (decC rr).ws.length = mW rr := liR_len _
            have e3 : (decC rr).ks.length = mK rr := liR_len _
            have e4 : (decC rr).ac.length = mA rr := liR_len _
            have := mW_le HWR.out
            have := mK_le HWR.out
            have := mA_le HWR.out
            rw [← hC]
            omega⟩
          rw [hC, hrz] at RDC HE
          rw [HRE.out] at RDC
          have HC := Aside0.mk hC
          clear hC hrz
          go_upto_region 10 with (first | (go_at_call 41; (with_reducible refine RDC.out.mono ?_); rintro e w7 ⟨A7, c7, B2, d2, B3, d3, B4, d4, rfl, hc7, hmv, hb⟩; have H7 := Aside0.mk (And.intro hc7 (And.intro hmv hb)); clear hc7 hmv hb RDC x0 x1 x2 e0 e1))
          have h8 := And.intro (blk_alloc (blk_new w7 (.cells #[.int .i64 C.p, .int .i64 C.f, .slice B2 C.ws.length d2, .slice B3 C.ks.length d3, .slice B4 C.ac.length d4] 26)) (.cells #[.slice A7 rz.b.length c7, .int .i64 rz.e] 69)) (And.intro (blk_new (w7.alloc (.cells #[.int .i64 C.p, .int .i64 C.f, .slice B2 C.ws.length d2, .slice B3 C.ks.length d3, .slice B4 C.ac.length d4] 26)) (.cells #[.slice A7 rz.b.length c7, .int .i64 rz.e] 69)) (below_alloc (below_alloc (Below.refl w7.heap.size w7) (.cells #[.int .i64 C.p, .int .i64 C.f, .slice B2 C.ws.length d2, .slice B3 C.ks.length d3, .slice B4 C.ac.length d4] 26)) (.cells #[.slice A7 rz.b.length c7, .int .i64 rz.e] 69)))
          rw [World.size_alloc] at h8
          have H8 := Aside0.mk h8
          clear h8
          generalize ((w7.alloc (.cells #[.int .i64 C.p, .int .i64 C.f, .slice B2 C.ws.length d2, .slice B3 C.ks.length d3, .slice B4 C.ac.length d4] 26)).alloc (.cells #[.slice A7 rz.b.length c7, .int .i64 rz.e] 69)) = w8 at H8 ⊢
          obtain ⟨qr, hqr⟩ : ∃ x, w7.heap.size + 1 = x := ⟨_, rfl⟩
          rw [hqr] at H8 ⊢
          clear hqr
          obtain ⟨qc, hqc⟩ : ∃ x, w7.heap.size = x := ⟨_, rfl⟩
          have HQC := Aside0.mk hqc
          have H8c : Aside0 (w8.heap[qc]? = some (.cells #[.int .i64 C.p, .int .i64 C.f, .slice B2 C.ws.length d2, .slice B3 C.ks.length d3, .slice B4 C.ac.length d4] 26 (0, 0))) := ⟨by rw [← hqc]; exact H8.out.1⟩
          rw [hqc] at ⊢
          clear hqc
          have y0 := (blk_cell H8.out.2.1 0).trans (show _ = some (.slice A7 rz.b.length c7) from rfl)
          have y1 := (blk_cell H8.out.2.1 1).trans (show _ = some (.int .i64 rz.e) from rfl)
          go_upto_region 11 with (first | (go_at_call 42; (with_reducible refine (Wi.rEnd_any rz w8).mono ?_); rintro e w9 ⟨rfl, hb⟩; have HB9 := Aside0.mk hb; clear hb y0 y1))
          generalize Wi.endE rz = re at HE ⊢
          have HBW := Aside0.mk (below_step (below_step (below_step H6.out.2.2.1 H7.out.2.2) H8.out.2.2) HB9.out)
          by_cases h5 : re = 0
          rotate_left
          ·
            have d1re : decide (re = 0) = false := decide_eq_false h5
            have d2re : (re == 0) = false := beq_eq_false_iff_ne.mpr h5
            have d3re : (re != 0) = true := bne_iff_ne.mpr h5
            have hq : decE xs = re := by rw [HE.out, if_neg (by simp), if_neg (by simp), if_neg (by simp), if_neg (by simp), if_pos h5]
            clear HE HR
            have s0 := (blk_cell (blk_below R0.out.1 HBW.out) 0).trans (show _ = some (.int .i64 0) from rfl)
            have s1 := (blk_cell (blk_below R0.out.1 HBW.out) 1).trans (show _ = some (.int .i64 0) from rfl)
            have s2 := (blk_cell (blk_below R0.out.1 HBW.out) 2).trans (show _ = some (.slice none 0 0) from rfl)
            have s3 := (blk_cell (blk_below R0.out.1 HBW.out) 3).trans (show _ = some (.slice none 0 0) from rfl)
            have s4 := (blk_cell (blk_below R0.out.1 HBW.out) 4).trans (show _ = some (.slice none 0 0) from rfl)
            have sf0 := blk_frozen (blk_below R0.out.1 HBW.out) 0
            have sf1 := blk_frozen (blk_below R0.out.1 HBW.out) 1
            have sf2 := blk_frozen (blk_below R0.out.1 HBW.out) 2
            have sf3 := blk_frozen (blk_below R0.out.1 HBW.out) 3
            have sf4 := blk_frozen (blk_below R0.out.1 HBW.out) 4
            go_wp2
            refine bodyPost_ret (results_ct rfl _ _ w.heap.size 26 #[.int .i64 0, .int .i64 0, .slice none 0 0, .slice none 0 0, .slice none 0 0] (0, 0) _ rfl (put5 (blk_below R0.out.1 HBW.out)) TT.out rfl (by kernel_rfl)) rfl ?_
            exact DA.no hq h5 rfl (bel5 (below_step R0.out.2 HBW.out) (Nat.le_refl _))
          ·
            subst h5
            have HB79 := Aside0.mk (below_step H8.out.2.2 HB9.out)
            have HCX : Aside0 (CX w9 C B2 d2 B3 d3 B4 d4) := ⟨H7.out.2.1 _ (fun b _ h => HB79.out.block b h)⟩
            have MC := Aside0.mk (rmay_any HCX.out HLC.out.1 HLC.out.2.1 HLC.out.2.2)
            have hco := chk_ok C
            have MC2 : Aside0 (Calls Tryd.prog 26 #[.agg #[.int .i64 C.p, .int .i64 C.f, .slice B2 C.ws.length d2, .slice B3 C.ks.length d3, .slice B4 C.ac.length d4]] w9 fun e w' => e = .returned (.bool (okB C)) ∧ Below w9.heap.size w9 w') := ⟨MC.out⟩
            clear MC
            have y0 := (blk_cell (blk_below H8c.out HB9.out) 0).trans (show _ = some (.int .i64 C.p) from rfl)
            have y1 := (blk_cell (blk_below H8c.out HB9.out) 1).trans (show _ = some (.int .i64 C.f) from rfl)
            have y2 := (blk_cell (blk_below H8c.out HB9.out) 2).trans (show _ = some (.slice B2 C.ws.length d2) from rfl)
            have y3 := (blk_cell (blk_below H8c.out HB9.out) 3).trans (show _ = some (.slice B3 C.ks.length d3) from rfl)
            have y4 := (blk_cell (blk_below H8c.out HB9.out) 4).trans (show _ = some (.slice B4 C.ac.length d4) from rfl)
            rw [hco] at HE
            clear hco
            obtain ⟨ok, hok⟩ : ∃ x, okB C = x := ⟨_, rfl⟩
            rw [hok] at MC2 HE
            clear hok
            go_upto_region 14 with (first | (go_at_call 26; (with_reducible refine MC2.out.mono ?_); rintro e w10 ⟨rfl, hb⟩; have HB10 := Aside0.mk hb; clear hb MC2 y0 y1 y2 y3 y4))
            have HBX := Aside0.mk (below_step HBW.out HB10.out)
            cases ok
            ·
              have hq : decE xs = 4 := by rw [HE.out, if_neg (by simp), if_neg (by simp), if_neg (by simp), if_neg (by simp), if_neg (by simp), if_neg (by decide)]
              clear HE HR
              have s0 := (blk_cell (blk_below R0.out.1 HBX.out) 0).trans (show _ = some (.int .i64 0) from rfl)
              have s1 := (blk_cell (blk_below R0.out.1 HBX.out) 1).trans (show _ = some (.int .i64 0) from rfl)
              have s2 := (blk_cell (blk_below R0.out.1 HBX.out) 2).trans (show _ = some (.slice none 0 0) from rfl)
              have s3 := (blk_cell (blk_below R0.out.1 HBX.out) 3).trans (show _ = some (.slice none 0 0) from rfl)
              have s4 := (blk_cell (blk_below R0.out.1 HBX.out) 4).trans (show _ = some (.slice none 0 0) from rfl)
              have sf0 := blk_frozen (blk_below R0.out.1 HBX.out) 0
              have sf1 := blk_frozen (blk_below R0.out.1 HBX.out) 1
              have sf2 := blk_frozen (blk_below R0.out.1 HBX.out) 2
              have sf3 := blk_frozen (blk_below R0.out.1 HBX.out) 3
              have sf4 := blk_frozen (blk_below R0.out.1 HBX.out) 4
              go_wp2
              refine bodyPost_ret (results_ct rfl _ _ w.heap.size 26 #[.int .i64 0, .int .i64 0, .slice none 0 0, .slice none 0 0, .slice none 0 0] (0, 0) _ rfl (put5 (blk_below R0.out.1 HBX.out)) TT.out rfl (by kernel_rfl)) rfl ?_
              exact DA.no hq (by decide) rfl (bel5 (below_step R0.out.2 HBX.out) (Nat.le_refl _))
            ·
              have hq : decE xs = 0 := by rw [HE.out, if_neg (by simp), if_neg (by simp), if_neg (by simp), if_neg (by simp), if_neg (by simp), if_pos rfl]
              clear HE
              have y0 := (blk_cell (blk_below (blk_below H8c.out HB9.out) HB10.out) 0).trans (show _ = some (.int .i64 C.p) from rfl)
              have y1 := (blk_cell (blk_below (blk_below H8c.out HB9.out) HB10.out) 1).trans (show _ = some (.int .i64 C.f) from rfl)
              have y2 := (blk_cell (blk_below (blk_below H8c.out HB9.out) HB10.out) 2).trans (show _ = some (.slice B2 C.ws.length d2) from rfl)
              have y3 := (blk_cell (blk_below (blk_below H8c.out HB9.out) HB10.out) 3).trans (show _ = some (.slice B3 C.ks.length d3) from rfl)
              have y4 := (blk_cell (blk_below (blk_below H8c.out HB9.out) HB10.out) 4).trans (show _ = some (.slice B4 C.ac.length d4) from rfl)
              have s0 := (blk_cell (blk_below R0.out.1 HBX.out) 0).trans (show _ = some (.int .i64 0) from rfl)
              have s1 := (blk_cell (blk_below R0.out.1 HBX.out) 1).trans (show _ = some (.int .i64 0) from rfl)
              have s2 := (blk_cell (blk_below R0.out.1 HBX.out) 2).trans (show _ = some (.slice none 0 0) from rfl)
              have s3 := (blk_cell (blk_below R0.out.1 HBX.out) 3).trans (show _ = some (.slice none 0 0) from rfl)
              have s4 := (blk_cell (blk_below R0.out.1 HBX.out) 4).trans (show _ = some (.slice none 0 0) from rfl)
              have sf0 := blk_frozen (blk_below R0.out.1 HBX.out) 0
              have sf1 := blk_frozen (blk_below R0.out.1 HBX.out) 1
              have sf2 := blk_frozen (blk_below R0.out.1 HBX.out) 2
              have sf3 := blk_frozen (blk_below R0.out.1 HBX.out) 3
              have sf4 := blk_frozen (blk_below R0.out.1 HBX.out) 4
              have hlt := Nat.lt_of_lt_of_le (blk_lt R0.out.1) H6.out.2.2.1.size
              go_wp2
              refine bodyPost_ret (results_ct rfl _ _ w.heap.size 26 #[.int .i64 C.p, .int .i64 C.f, .slice B2 C.ws.length d2, .slice B3 C.ks.length d3, .slice B4 C.ac.length d4] (0, 0) _ rfl (put5 (blk_below R0.out.1 HBX.out)) TT.out rfl (by kernel_rfl)) rfl ?_
              exact DA.yes hq (by rw [HR.out]; exact HC.out) rfl (H7.out.2.1 _ (fun b h1 h2 => (off5 (by omega)).trans ((HB10.out.block b (Nat.lt_of_lt_of_le h2 HB79.out.size)).trans (HB79.out.block b h2)))) (bel5 (below_step R0.out.2 HBX.out) (Nat.le_refl _))
end Go.Proofs.YtdebbanloopcgaaDoor.Tb
