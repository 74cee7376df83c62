/- Layer 13 (window): what the document's answers come to, by hand: Until, Nth, Serves. -/
import Derived.Test.YtmmkbgilcggkkaaDoorWr
set_option linter.unusedVariables false
set_option linter.unusedSimpArgs false
namespace Go.Proofs.YtmmkbgilcggkkaaDoor.Wn
open Go Go.RowKit Go.Shelf Go.Proofs.YtmmkbgilcggkkaaDoorW.PrintWords Go.Proofs.YtmmkbgilcggkkaaDoorW.PrintLast Go.Proofs.YtmmkbgilcggkkaaDoorW.PrintMore Go.Proofs.YtmmkbgilcggkkaaDoor.Cz Go.Proofs.YtmmkbgilcggkkaaDoor.PWindowCalls Go.Proofs.YtmmkbgilcggkkaaDoor.Cf Go.Proofs.YtmmkbgilcggkkaaDoor.Sat
attribute [local go_sem] Tryd.underlying26 Tryd.underlying41 Tryd.underlying37
set_option maxHeartbeats 16000000 in
set_option maxRecDepth 100000 in
theorem runtil_any {C : Cfg} {A2 A3 A4 : Option Addr} {c2 c3 c4 : Nat} {w : World} (hX : CX w C A2 c2 A3 c3 A4 c4) (lk : C.ks.length ≤ 1000) (la : C.ac.length ≤ 1000) (lw : C.ws.length ≤ 1000) (o : Int) (now : Int) :
    Calls Tryd.prog 36 #[.agg #[.int .i64 C.p, .int .i64 C.f, .slice A2 C.ws.length c2, .slice A3 C.ks.length c3, .slice A4 C.ac.length c4], .int .i64 o, .int .i64 now] w fun e w' => e = .returned (.int .i64 (untilN C o now)) ∧ Below w.heap.size w w' := by
  have CC : Aside0 (∀ W : World, Below w.heap.size w W → Calls Tryd.prog 34 #[.agg #[.int .i64 C.p, .int .i64 C.f, .slice A2 C.ws.length c2, .slice A3 C.ks.length c3, .slice A4 C.ac.length c4], .int .i64 o] W fun e w' => e = .returned (.int .i64 (countN C o)) ∧ Below W.heap.size W w') := ⟨fun W hb => rcount_any (hX.below hb) lk la lw o⟩
  have H1 : Aside0 ((w.alloc (.cells #[.int .i64 C.p, .int .i64 C.f, .slice A2 C.ws.length c2, .slice A3 C.ks.length c3, .slice A4 C.ac.length c4] 26)).heap[w.heap.size]? = some (.cells #[.int .i64 C.p, .int .i64 C.f, .slice A2 C.ws.length c2, .slice A3 C.ks.length c3, .slice A4 C.ac.length c4] 26 (0, 0)) ∧ Below w.heap.size w (w.alloc (.cells #[.int .i64 C.p, .int .i64 C.f, .slice A2 C.ws.length c2, .slice A3 C.ks.length c3, .slice A4 C.ac.length c4] 26))) := ⟨⟨blk_new _ _, below_alloc (Below.refl _ _) _⟩⟩
  have b0 := (blk_cell H1.out.1 0).trans (show _ = some (.int .i64 C.p) from rfl)
  have b1 := (blk_cell H1.out.1 1).trans (show _ = some (.int .i64 C.f) from rfl)
  have b2 := (blk_cell H1.out.1 2).trans (show _ = some (.slice A2 C.ws.length c2) from rfl)
  have b3 := (blk_cell H1.out.1 3).trans (show _ = some (.slice A3 C.ks.length c3) from rfl)
  have b4 := (blk_cell H1.out.1 4).trans (show _ = some (.slice A4 C.ac.length c4) from rfl)
  by_cases hc : countN C o = 0
  ·
    have hne : phs C o = [] := by
      rw [countN_len] at hc
      exact List.length_eq_zero_iff.1 (by omega)
    have hun : untilN C o now = -1 := by unfold untilN; rw [hne]; rfl
    rw [hun]
    rw [hc] at CC
    clear hne hun hc hX lk la lw
    go_enter Tryd.func36, Tryd.ntmps36
    go_wp2_with (first | (go_at_call 34; (with_reducible refine (CC.out _ H1.out.2).mono ?_); rintro e w2 ⟨rfl, hb⟩; have H2 := Aside0.mk (And.intro (blk_below H1.out.1 hb) (below_step H1.out.2 hb)); clear hb b0 b1 b2 b3 b4))
    go_ret
    exact ⟨rfl, H2.out.2⟩
  ·
    have hok : okB C = true := by
      cases h : okB C
      · exact absurd (no_count h o) hc
      · rfl
    have hf := (ok_hd hok).2.1
    have hpp := ok_phase hok now
    obtain ⟨g, hg, hu, hat, hno⟩ := ok_until hok (now := now) hc
    rw [hu]
    have CT : Aside0 (∀ (t : Int) (W : World), Below w.heap.size w W → Calls Tryd.prog 43 #[.agg #[.int .i64 C.p, .int .i64 C.f, .slice A2 C.ws.length c2, .slice A3 C.ks.length c3, .slice A4 C.ac.length c4], .int .i64 t] W fun e w' => e = .returned (.tuple #[.int .i64 ((atW t C.ws).getD 0), .bool (atW t C.ws).isSome]) ∧ Below W.heap.size W w') := ⟨fun t W hb => rat_any (hX.below hb) lk la lw hok t⟩
    have PX : Aside0 (∀ W : World, Calls Tryd.prog 44 #[.int .i64 now, .int .i64 C.f] W fun e w' => e = .returned (.int .i64 (phase C now)) ∧ W = w') := ⟨fun W => rphase_any now C.f W⟩
    have d1 : decide (countN C o = 0) = false := decide_eq_false hc
    have d2 : (countN C o == 0) = false := beq_eq_false_iff_ne.mpr hc
    generalize countN C o = k at CC d1 d2
    have hph := hpp.2
    clear hpp hu hok hX lk la lw hc
    generalize phase C now = ph at PX hat hno hph
    obtain ⟨hp0, hp1⟩ := hph
    have HAT := Aside0.mk hat
    have HNO := Aside0.mk hno
    clear hat hno
    have z1 : C.f ≠ 0 := by omega
    have z2 : decide (C.f = 0) = false := decide_eq_false z1
    have z3 : (C.f == 0) = false := beq_eq_false_iff_ne.mpr z1
    go_enter Tryd.func36, Tryd.ntmps36
    go_upto_region 3 with (first | (go_at_call 34; (with_reducible refine (CC.out _ H1.out.2).mono ?_); rintro e w2 ⟨rfl, hb⟩; have H2 := Aside0.mk (And.intro (blk_below H1.out.1 hb) (below_step H1.out.2 hb)); clear hb b0 b1 b2 b3 b4))
    clear CC d1 d2 H1
    go_wp2
    go_loopw [7] (fun v7 wr => ∃ j : Int, v7 = .int .i64 j ∧ 0 ≤ j ∧ j ≤ g ∧ Aside0 (wr.heap[w.heap.size]? = some (.cells #[.int .i64 C.p, .int .i64 C.f, .slice A2 C.ws.length c2, .slice A3 C.ks.length c3, .slice A4 C.ac.length c4] 26 (0, 0)) ∧ Below w.heap.size w wr)) (fun v7 _ => (g - intOf v7).toNat)
    case atStart => exact ⟨0, rfl, by omega, by omega, H2⟩
    case round =>
      clear H2
      rename_i gv7
      obtain ⟨j, rfl, hj0, hj1, HI⟩ := hrel
      have b0 := (blk_cell HI.out.1 0).trans (show _ = some (.int .i64 C.p) from rfl)
      have b1 := (blk_cell HI.out.1 1).trans (show _ = some (.int .i64 C.f) from rfl)
      have b2 := (blk_cell HI.out.1 2).trans (show _ = some (.slice A2 C.ws.length c2) from rfl)
      have b3 := (blk_cell HI.out.1 3).trans (show _ = some (.slice A3 C.ks.length c3) from rfl)
      have b4 := (blk_cell HI.out.1 4).trans (show _ = some (.slice A4 C.ac.length c4) from rfl)
      have d1 : decide (j < 64) = true := decide_eq_true (by omega)
      have hi2 : wrap64 (j + 1) = j + 1 := w64_in (by omega) (by omega)
      have hs1 : wrap64 (ph + j) = ph + j := w64_in (by omega) (by omega)
      have hs2 : Int.tmod (ph + j) C.f = (ph + j) % C.f := Int.tmod_eq_emod_of_nonneg (by omega)
      have hs3 := Int.emod_nonneg (ph + j) (show C.f ≠ 0 by omega)
      have hs4 := Int.emod_lt_of_pos (ph + j) (show 0 < C.f by omega)
      have hs5 : wrap64 (Int.tmod (ph + j) C.f) = (ph + j) % C.f := by rw [hs2]; exact w64_in (by omega) (by omega)
      have CTi := Aside0.mk (CT.out ((ph + j) % C.f))
      go_upto_region 6 with (first | fail)
      have TS := Aside0.mk (fun (W : World) (hb : Below wr.heap.size wr W) => And.intro (cell_b b0 hb) (And.intro (cell_b b1 hb) (And.intro (cell_b b2 hb) (And.intro (cell_b b3 hb) (cell_b b4 hb)))))
      have HB := Aside0.mk (below_drew (Below.refl wr.heap.size wr))
      by_cases hjg : j = g
      · subst hjg
        have hw := HAT.out
        have hos : (some o).isSome = true := rfl
        have hop : (some o).getD 0 = o := rfl
        rw [hw, hop, hos] at CTi
        clear hos hop HNO HAT
        refine start_ (n := 16) (S := (fun w' => w'.cell? ⟨w.heap.size, 0, none⟩ = some (.int .i64 C.p) ∧ w'.cell? ⟨w.heap.size, 1, none⟩ = some (.int .i64 C.f) ∧ w'.cell? ⟨w.heap.size, 2, none⟩ = some (.slice A2 C.ws.length c2) ∧ w'.cell? ⟨w.heap.size, 3, none⟩ = some (.slice A3 C.ks.length c3) ∧ w'.cell? ⟨w.heap.size, 4, none⟩ = some (.slice A4 C.ac.length c4))) (ds := []) #[false, false, false, false, false, false, false, false, false, false, false, false, false, false, false, false] (by kernel_rfl) rfl rfl (TS.out _ (below_drew (Below.refl _ _))) (fun hHeld => ?_)
        refine take_ (i := 0) (N := some 19) (v := ?_) (a' := ?_) #[true, false, false, false, false, false, false, false, false, false, false, false, false, false, false, false] rfl rfl (by kernel_rfl) (fun _ _ _ h => h) (Or.inl ⟨by rfl, ?_⟩) hHeld ?_ ?_
        rotate_left
        · intro w' hSw
          obtain ⟨s0, s1, s2, s3, s4⟩ := hSw
          go_simp
          with_reducible rfl
        rotate_left
        · simp only [Act.put, List.setIfInBounds_toArray, List.set_cons_zero, List.set_cons_succ, i64_w, i32_w]
          rfl
        refine pure_ (i := 1) (N := some 20) (v := ?_) (a' := ?_) #[true, true, false, false, false, false, false, false, false, false, false, false, false, false, false, false] rfl rfl (by kernel_rfl) (fun _ _ _ h => h) (Or.inl ⟨by rfl, ?_⟩) ?_ ?_
        rotate_left
        · intro w'
          go_simp
          with_reducible rfl
        rotate_left
        · simp only [Act.put, List.setIfInBounds_toArray, List.set_cons_zero, List.set_cons_succ, i64_w, i32_w]
          rfl
        refine pure_ (i := 2) (N := some 21) (v := ?_) (a' := ?_) #[true, true, true, false, false, false, false, false, false, false, false, false, false, false, false, false] rfl rfl (by kernel_rfl) (fun _ _ _ h => h) (Or.inl ⟨by rfl, ?_⟩) ?_ ?_
        rotate_left
        · intro w'
          go_simp
          with_reducible rfl
        rotate_left
        · simp only [Act.put, List.setIfInBounds_toArray, List.set_cons_zero, List.set_cons_succ, i64_w, i32_w]
          rfl
        refine take_ (i := 3) (N := some 22) (v := ?_) (a' := ?_) #[true, true, true, true, false, false, false, false, false, false, false, false, false, false, false, false] rfl rfl (by kernel_rfl) (fun _ _ _ h => h) (Or.inl ⟨by rfl, ?_⟩) hHeld ?_ ?_
        rotate_left
        · intro w' hSw
          obtain ⟨s0, s1, s2, s3, s4⟩ := hSw
          go_simp
          with_reducible rfl
        rotate_left
        · simp only [Act.put, List.setIfInBounds_toArray, List.set_cons_zero, List.set_cons_succ, i64_w, i32_w]
          rfl
        refine pure_ (i := 5) (N := some 24) (v := ?_) (a' := ?_) #[true, true, true, true, false, true, false, false, false, false, false, false, false, false, false, false] rfl rfl (by kernel_rfl) (fun _ _ _ h => h) (Or.inl ⟨by rfl, ?_⟩) ?_ ?_
        rotate_left
        · intro w'
          go_simp
          with_reducible rfl
        rotate_left
        · simp only [Act.put, List.setIfInBounds_toArray, List.set_cons_zero, List.set_cons_succ, i64_w, i32_w]
          rfl
        refine pure_ (i := 7) (N := some 26) (v := ?_) (a' := ?_) #[true, true, true, true, false, true, false, true, false, false, false, false, false, false, false, false] rfl rfl (by kernel_rfl) (fun _ _ _ h => h) (Or.inl ⟨by rfl, ?_⟩) ?_ ?_
        rotate_left
        · intro w'
          go_simp
          with_reducible rfl
        rotate_left
        · simp only [Act.put, List.setIfInBounds_toArray, List.set_cons_zero, List.set_cons_succ, i64_w, i32_w]
          rfl
        refine take_ (i := 8) (N := some 27) (v := ?_) (a' := ?_) #[true, true, true, true, false, true, false, true, true, false, false, false, false, false, false, false] rfl rfl (by kernel_rfl) (fun _ _ _ h => h) (Or.inl ⟨by rfl, ?_⟩) hHeld ?_ ?_
        rotate_left
        · intro w' hSw
          obtain ⟨s0, s1, s2, s3, s4⟩ := hSw
          go_simp
          with_reducible rfl
        rotate_left
        · simp only [Act.put, List.setIfInBounds_toArray, List.set_cons_zero, List.set_cons_succ, i64_w, i32_w]
          rfl
        clear hHeld
        refine one_ (i := 4) (N := some 23) #[true, true, true, true, true, true, false, true, true, false, false, false, false, false, false, false] rfl rfl (by kernel_rfl) (by decide) (fun K hK => ?_)
        refine goes_ Tryd.func44 (by kernel_rfl) rfl #[.int .i64 now, .int .i64 C.f] (by rfl) rfl rfl (by (try simp only [List.map_toArray, List.map_cons, List.map_nil]); first | done | rfl | (simp only [List.length_drop, List.length_take]; rfl)) ?_
        (with_reducible refine (PX.out _).mono ?_)
        rintro e w11 ⟨rfl, rfl⟩
        refine ⟨_, rfl, ?_⟩
        refine hK.out _ _ (TS.out _ HB.out) (fun hHeld => ?_)
        clear hK K
        refine norm_ (a' := ?_) ?_ ?_
        rotate_left
        · show Act.put _ (some 23) _ = _
          simp only [Act.put, List.setIfInBounds_toArray, List.set_cons_zero, List.set_cons_succ, i64_w, i32_w]
          rfl
        refine pure_ (i := 6) (N := some 25) (v := ?_) (a' := ?_) #[true, true, true, true, true, true, true, true, true, false, false, false, false, false, false, false] rfl rfl (by kernel_rfl) (fun _ _ _ h => h) (Or.inl ⟨by rfl, ?_⟩) ?_ ?_
        rotate_left
        · intro w'
          go_simp
          with_reducible rfl
        rotate_left
        · simp only [Act.put, List.setIfInBounds_toArray, List.set_cons_zero, List.set_cons_succ, i64_w, i32_w]
          rfl
        refine pure_ (i := 9) (N := some 28) (v := ?_) (a' := ?_) #[true, true, true, true, true, true, true, true, true, true, false, false, false, false, false, false] rfl rfl (by kernel_rfl) (fun _ _ _ h => h) (Or.inl ⟨by rfl, ?_⟩) ?_ ?_
        rotate_left
        · intro w'
          go_simp
          with_reducible rfl
        rotate_left
        · simp only [Act.put, List.setIfInBounds_toArray, List.set_cons_zero, List.set_cons_succ, i64_w, i32_w]
          rfl
        try rw [hs1]
        try rw [hs5]
        try rw [hs2]
        generalize (ph + j) % C.f = q at CTi hs3 hs4 hw ⊢
        clear hHeld
        refine one_ (i := 10) (N := some 29) #[true, true, true, true, true, true, true, true, true, true, true, false, false, false, false, false] rfl rfl (by kernel_rfl) (by decide) (fun K hK => ?_)
        refine goes_ Tryd.func43 (by kernel_rfl) rfl #[.agg #[.int .i64 C.p, .int .i64 C.f, .slice A2 C.ws.length c2, .slice A3 C.ks.length c3, .slice A4 C.ac.length c4], .int .i64 q] (by rfl) rfl rfl (by (try simp only [List.map_toArray, List.map_cons, List.map_nil]); first | done | rfl | (simp only [List.length_drop, List.length_take]; rfl)) ?_
        (with_reducible refine (CTi.out _ (below_step HI.out.2 HB.out)).mono ?_)
        rintro e w11 ⟨rfl, hb⟩
        refine ⟨_, rfl, ?_⟩
        have HBn := Aside0.mk (below_step HB.out hb)
        clear HB
        have HB := HBn
        clear HBn
        clear hb
        refine hK.out _ _ (TS.out _ HB.out) (fun hHeld => ?_)
        clear hK K
        refine norm_ (a' := ?_) ?_ ?_
        rotate_left
        · show Act.put _ (some 29) _ = _
          simp only [Act.put, List.setIfInBounds_toArray, List.set_cons_zero, List.set_cons_succ, i64_w, i32_w]
          rfl
        refine pure_ (i := 11) (N := some 18) (v := ?_) (a' := ?_) #[true, true, true, true, true, true, true, true, true, true, true, true, false, false, false, false] rfl rfl (by kernel_rfl) (fun _ _ _ h => h) (Or.inl ⟨by rfl, ?_⟩) ?_ ?_
        rotate_left
        · intro w'
          go_simp
          with_reducible rfl
        rotate_left
        · simp only [Act.put, List.setIfInBounds_toArray, List.set_cons_zero, List.set_cons_succ, i64_w, i32_w]
          rfl
        refine pure_ (i := 12) (N := some 30) (v := ?_) (a' := ?_) #[true, true, true, true, true, true, true, true, true, true, true, true, true, false, false, false] rfl rfl (by kernel_rfl) (fun _ _ _ h => h) (Or.inl ⟨by rfl, ?_⟩) ?_ ?_
        rotate_left
        · intro w'
          go_simp
          with_reducible rfl
        rotate_left
        · simp only [Act.put, List.setIfInBounds_toArray, List.set_cons_zero, List.set_cons_succ, i64_w, i32_w]
          rfl
        refine pure_ (i := 13) (N := some 31) (v := ?_) (a' := ?_) #[true, true, true, true, true, true, true, true, true, true, true, true, true, true, false, false] rfl rfl (by kernel_rfl) (fun _ _ _ h => h) (Or.inl ⟨by rfl, ?_⟩) ?_ ?_
        rotate_left
        · intro w'
          go_simp
          with_reducible rfl
        rotate_left
        · simp only [Act.put, List.setIfInBounds_toArray, List.set_cons_zero, List.set_cons_succ, i64_w, i32_w]
          rfl
        refine pure_ (i := 14) (N := some 8) (v := ?_) (a' := ?_) #[true, true, true, true, true, true, true, true, true, true, true, true, true, true, true, false] rfl rfl (by kernel_rfl) (fun _ _ _ h => h) (Or.inl ⟨by rfl, ?_⟩) ?_ ?_
        rotate_left
        · intro w'
          go_simp
          with_reducible rfl
        rotate_left
        · simp only [Act.put, List.setIfInBounds_toArray, List.set_cons_zero, List.set_cons_succ, i64_w, i32_w]
          rfl
        refine pure_ (i := 15) (N := some 9) (v := ?_) (a' := ?_) #[true, true, true, true, true, true, true, true, true, true, true, true, true, true, true, true] rfl rfl (by kernel_rfl) (fun _ _ _ h => h) (Or.inl ⟨by rfl, ?_⟩) ?_ ?_
        rotate_left
        · intro w'
          go_simp
          with_reducible rfl
        rotate_left
        · simp only [Act.put, List.setIfInBounds_toArray, List.set_cons_zero, List.set_cons_succ, i64_w, i32_w]
          rfl
        refine done_ (by kernel_rfl) ?_
        go_wp2_with (first | (go_at_call 46; (with_reducible refine (radd_any _ _ _).mono ?_); rintro e w12 ⟨rfl, rfl⟩))
        go_ret
        exact ⟨rfl, below_step HI.out.2 HB.out⟩
      · have hna := HNO.out j hj0 (by omega)
        have hwo : atW ((ph + j) % C.f) C.ws = none ∨ ∃ r, atW ((ph + j) % C.f) C.ws = some r ∧ decide (r = o) = false ∧ (r == o) = false := by
          cases h : atW ((ph + j) % C.f) C.ws with
          | none => exact Or.inl rfl
          | some r =>
            have hr : r ≠ o := fun e => hna (by rw [h, e])
            exact Or.inr ⟨r, rfl, decide_eq_false hr, beq_eq_false_iff_ne.mpr hr⟩
        clear hna
        rcases hwo with hw | ⟨r, hw, hr1, hr2⟩
        ·
          rw [hw] at CTi
          have hos : (none : Option Int).isSome = false := rfl
          rw [hos] at CTi
          clear hos
          generalize (none : Option Int).getD 0 = a at CTi
          refine start_ (n := 16) (S := (fun w' => w'.cell? ⟨w.heap.size, 0, none⟩ = some (.int .i64 C.p) ∧ w'.cell? ⟨w.heap.size, 1, none⟩ = some (.int .i64 C.f) ∧ w'.cell? ⟨w.heap.size, 2, none⟩ = some (.slice A2 C.ws.length c2) ∧ w'.cell? ⟨w.heap.size, 3, none⟩ = some (.slice A3 C.ks.length c3) ∧ w'.cell? ⟨w.heap.size, 4, none⟩ = some (.slice A4 C.ac.length c4))) (ds := []) #[false, false, false, false, false, false, false, false, false, false, false, false, false, false, false, false] (by kernel_rfl) rfl rfl (TS.out _ (below_drew (Below.refl _ _))) (fun hHeld => ?_)
          refine take_ (i := 0) (N := some 19) (v := ?_) (a' := ?_) #[true, false, false, false, false, false, false, false, false, false, false, false, false, false, false, false] rfl rfl (by kernel_rfl) (fun _ _ _ h => h) (Or.inl ⟨by rfl, ?_⟩) hHeld ?_ ?_
          rotate_left
          · intro w' hSw
            obtain ⟨s0, s1, s2, s3, s4⟩ := hSw
            go_simp
            with_reducible rfl
          rotate_left
          · simp only [Act.put, List.setIfInBounds_toArray, List.set_cons_zero, List.set_cons_succ, i64_w, i32_w]
            rfl
          refine pure_ (i := 1) (N := some 20) (v := ?_) (a' := ?_) #[true, true, false, false, false, false, false, false, false, false, false, false, false, false, false, false] rfl rfl (by kernel_rfl) (fun _ _ _ h => h) (Or.inl ⟨by rfl, ?_⟩) ?_ ?_
          rotate_left
          · intro w'
            go_simp
            with_reducible rfl
          rotate_left
          · simp only [Act.put, List.setIfInBounds_toArray, List.set_cons_zero, List.set_cons_succ, i64_w, i32_w]
            rfl
          refine pure_ (i := 2) (N := some 21) (v := ?_) (a' := ?_) #[true, true, true, false, false, false, false, false, false, false, false, false, false, false, false, false] rfl rfl (by kernel_rfl) (fun _ _ _ h => h) (Or.inl ⟨by rfl, ?_⟩) ?_ ?_
          rotate_left
          · intro w'
            go_simp
            with_reducible rfl
          rotate_left
          · simp only [Act.put, List.setIfInBounds_toArray, List.set_cons_zero, List.set_cons_succ, i64_w, i32_w]
            rfl
          refine take_ (i := 3) (N := some 22) (v := ?_) (a' := ?_) #[true, true, true, true, false, false, false, false, false, false, false, false, false, false, false, false] rfl rfl (by kernel_rfl) (fun _ _ _ h => h) (Or.inl ⟨by rfl, ?_⟩) hHeld ?_ ?_
          rotate_left
          · intro w' hSw
            obtain ⟨s0, s1, s2, s3, s4⟩ := hSw
            go_simp
            with_reducible rfl
          rotate_left
          · simp only [Act.put, List.setIfInBounds_toArray, List.set_cons_zero, List.set_cons_succ, i64_w, i32_w]
            rfl
          refine pure_ (i := 5) (N := some 24) (v := ?_) (a' := ?_) #[true, true, true, true, false, true, false, false, false, false, false, false, false, false, false, false] rfl rfl (by kernel_rfl) (fun _ _ _ h => h) (Or.inl ⟨by rfl, ?_⟩) ?_ ?_
          rotate_left
          · intro w'
            go_simp
            with_reducible rfl
          rotate_left
          · simp only [Act.put, List.setIfInBounds_toArray, List.set_cons_zero, List.set_cons_succ, i64_w, i32_w]
            rfl
          refine pure_ (i := 7) (N := some 26) (v := ?_) (a' := ?_) #[true, true, true, true, false, true, false, true, false, false, false, false, false, false, false, false] rfl rfl (by kernel_rfl) (fun _ _ _ h => h) (Or.inl ⟨by rfl, ?_⟩) ?_ ?_
          rotate_left
          · intro w'
            go_simp
            with_reducible rfl
          rotate_left
          · simp only [Act.put, List.setIfInBounds_toArray, List.set_cons_zero, List.set_cons_succ, i64_w, i32_w]
            rfl
          refine take_ (i := 8) (N := some 27) (v := ?_) (a' := ?_) #[true, true, true, true, false, true, false, true, true, false, false, false, false, false, false, false] rfl rfl (by kernel_rfl) (fun _ _ _ h => h) (Or.inl ⟨by rfl, ?_⟩) hHeld ?_ ?_
          rotate_left
          · intro w' hSw
            obtain ⟨s0, s1, s2, s3, s4⟩ := hSw
            go_simp
            with_reducible rfl
          rotate_left
          · simp only [Act.put, List.setIfInBounds_toArray, List.set_cons_zero, List.set_cons_succ, i64_w, i32_w]
            rfl
          clear hHeld
          refine one_ (i := 4) (N := some 23) #[true, true, true, true, true, true, false, true, true, false, false, false, false, false, false, false] rfl rfl (by kernel_rfl) (by decide) (fun K hK => ?_)
          refine goes_ Tryd.func44 (by kernel_rfl) rfl #[.int .i64 now, .int .i64 C.f] (by rfl) rfl rfl (by (try simp only [List.map_toArray, List.map_cons, List.map_nil]); first | done | rfl | (simp only [List.length_drop, List.length_take]; rfl)) ?_
          (with_reducible refine (PX.out _).mono ?_)
          rintro e w11 ⟨rfl, rfl⟩
          refine ⟨_, rfl, ?_⟩
          refine hK.out _ _ (TS.out _ HB.out) (fun hHeld => ?_)
          clear hK K
          refine norm_ (a' := ?_) ?_ ?_
          rotate_left
          · show Act.put _ (some 23) _ = _
            simp only [Act.put, List.setIfInBounds_toArray, List.set_cons_zero, List.set_cons_succ, i64_w, i32_w]
            rfl
          refine pure_ (i := 6) (N := some 25) (v := ?_) (a' := ?_) #[true, true, true, true, true, true, true, true, true, false, false, false, false, false, false, false] rfl rfl (by kernel_rfl) (fun _ _ _ h => h) (Or.inl ⟨by rfl, ?_⟩) ?_ ?_
          rotate_left
          · intro w'
            go_simp
            with_reducible rfl
          rotate_left
          · simp only [Act.put, List.setIfInBounds_toArray, List.set_cons_zero, List.set_cons_succ, i64_w, i32_w]
            rfl
          refine pure_ (i := 9) (N := some 28) (v := ?_) (a' := ?_) #[true, true, true, true, true, true, true, true, true, true, false, false, false, false, false, false] rfl rfl (by kernel_rfl) (fun _ _ _ h => h) (Or.inl ⟨by rfl, ?_⟩) ?_ ?_
          rotate_left
          · intro w'
            go_simp
            with_reducible rfl
          rotate_left
          · simp only [Act.put, List.setIfInBounds_toArray, List.set_cons_zero, List.set_cons_succ, i64_w, i32_w]
            rfl
          try rw [hs1]
          try rw [hs5]
          try rw [hs2]
          generalize (ph + j) % C.f = q at CTi hs3 hs4 hw ⊢
          clear hHeld
          refine one_ (i := 10) (N := some 29) #[true, true, true, true, true, true, true, true, true, true, true, false, false, false, false, false] rfl rfl (by kernel_rfl) (by decide) (fun K hK => ?_)
          refine goes_ Tryd.func43 (by kernel_rfl) rfl #[.agg #[.int .i64 C.p, .int .i64 C.f, .slice A2 C.ws.length c2, .slice A3 C.ks.length c3, .slice A4 C.ac.length c4], .int .i64 q] (by rfl) rfl rfl (by (try simp only [List.map_toArray, List.map_cons, List.map_nil]); first | done | rfl | (simp only [List.length_drop, List.length_take]; rfl)) ?_
          (with_reducible refine (CTi.out _ (below_step HI.out.2 HB.out)).mono ?_)
          rintro e w11 ⟨rfl, hb⟩
          refine ⟨_, rfl, ?_⟩
          have HBn := Aside0.mk (below_step HB.out hb)
          clear HB
          have HB := HBn
          clear HBn
          clear hb
          refine hK.out _ _ (TS.out _ HB.out) (fun hHeld => ?_)
          clear hK K
          refine norm_ (a' := ?_) ?_ ?_
          rotate_left
          · show Act.put _ (some 29) _ = _
            simp only [Act.put, List.setIfInBounds_toArray, List.set_cons_zero, List.set_cons_succ, i64_w, i32_w]
            rfl
          refine pure_ (i := 11) (N := some 18) (v := ?_) (a' := ?_) #[true, true, true, true, true, true, true, true, true, true, true, true, false, false, false, false] rfl rfl (by kernel_rfl) (fun _ _ _ h => h) (Or.inl ⟨by rfl, ?_⟩) ?_ ?_
          rotate_left
          · intro w'
            go_simp
            with_reducible rfl
          rotate_left
          · simp only [Act.put, List.setIfInBounds_toArray, List.set_cons_zero, List.set_cons_succ, i64_w, i32_w]
            rfl
          refine pure_ (i := 12) (N := some 30) (v := ?_) (a' := ?_) #[true, true, true, true, true, true, true, true, true, true, true, true, true, false, false, false] rfl rfl (by kernel_rfl) (fun _ _ _ h => h) (Or.inl ⟨by rfl, ?_⟩) ?_ ?_
          rotate_left
          · intro w'
            go_simp
            with_reducible rfl
          rotate_left
          · simp only [Act.put, List.setIfInBounds_toArray, List.set_cons_zero, List.set_cons_succ, i64_w, i32_w]
            rfl
          refine pure_ (i := 13) (N := some 31) (v := ?_) (a' := ?_) #[true, true, true, true, true, true, true, true, true, true, true, true, true, true, false, false] rfl rfl (by kernel_rfl) (fun _ _ _ h => h) (Or.inl ⟨by rfl, ?_⟩) ?_ ?_
          rotate_left
          · intro w'
            go_simp
            with_reducible rfl
          rotate_left
          · simp only [Act.put, List.setIfInBounds_toArray, List.set_cons_zero, List.set_cons_succ, i64_w, i32_w]
            rfl
          refine pure_ (i := 14) (N := some 8) (v := ?_) (a' := ?_) #[true, true, true, true, true, true, true, true, true, true, true, true, true, true, true, false] rfl rfl (by kernel_rfl) (fun _ _ _ h => h) (Or.inl ⟨by rfl, ?_⟩) ?_ ?_
          rotate_left
          · intro w'
            go_simp
            with_reducible rfl
          rotate_left
          · simp only [Act.put, List.setIfInBounds_toArray, List.set_cons_zero, List.set_cons_succ, i64_w, i32_w]
            rfl
          refine pure_ (i := 15) (N := some 9) (v := ?_) (a' := ?_) #[true, true, true, true, true, true, true, true, true, true, true, true, true, true, true, true] rfl rfl (by kernel_rfl) (fun _ _ _ h => h) (Or.inl ⟨by rfl, ?_⟩) ?_ ?_
          rotate_left
          · intro w'
            go_simp
            with_reducible rfl
          rotate_left
          · simp only [Act.put, List.setIfInBounds_toArray, List.set_cons_zero, List.set_cons_succ, i64_w, i32_w]
            rfl
          refine done_ (by kernel_rfl) ?_
          go_wp2
          go_roundw
          case rel => exact ⟨j + 1, by first | rfl | rw [hi2] | go_num, by omega, by omega, ⟨blk_below HI.out.1 HB.out, below_step HI.out.2 HB.out⟩⟩
          case measure => simp [intOf]; omega
        ·
          rw [hw] at CTi
          have hop : (some r).getD 0 = r := rfl
          have hos : (some r).isSome = true := rfl
          rw [hop, hos] at CTi
          clear hop hos
          refine start_ (n := 16) (S := (fun w' => w'.cell? ⟨w.heap.size, 0, none⟩ = some (.int .i64 C.p) ∧ w'.cell? ⟨w.heap.size, 1, none⟩ = some (.int .i64 C.f) ∧ w'.cell? ⟨w.heap.size, 2, none⟩ = some (.slice A2 C.ws.length c2) ∧ w'.cell? ⟨w.heap.size, 3, none⟩ = some (.slice A3 C.ks.length c3) ∧ w'.cell? ⟨w.heap.size, 4, none⟩ = some (.slice A4 C.ac.length c4))) (ds := []) #[false, false, false, false, false, false, false, false, false, false, false, false, false, false, false, false] (by kernel_rfl) rfl rfl (TS.out _ (below_drew (Below.refl _ _))) (fun hHeld => ?_)
          refine take_ (i := 0) (N := some 19) (v := ?_) (a' := ?_) #[true, false, false, false, false, false, false, false, false, false, false, false, false, false, false, false] rfl rfl (by kernel_rfl) (fun _ _ _ h => h) (Or.inl ⟨by rfl, ?_⟩) hHeld ?_ ?_
          rotate_left
          · intro w' hSw
            obtain ⟨s0, s1, s2, s3, s4⟩ := hSw
            go_simp
            with_reducible rfl
          rotate_left
          · simp only [Act.put, List.setIfInBounds_toArray, List.set_cons_zero, List.set_cons_succ, i64_w, i32_w]
            rfl
          refine pure_ (i := 1) (N := some 20) (v := ?_) (a' := ?_) #[true, true, false, false, false, false, false, false, false, false, false, false, false, false, false, false] rfl rfl (by kernel_rfl) (fun _ _ _ h => h) (Or.inl ⟨by rfl, ?_⟩) ?_ ?_
          rotate_left
          · intro w'
            go_simp
            with_reducible rfl
          rotate_left
          · simp only [Act.put, List.setIfInBounds_toArray, List.set_cons_zero, List.set_cons_succ, i64_w, i32_w]
            rfl
          refine pure_ (i := 2) (N := some 21) (v := ?_) (a' := ?_) #[true, true, true, false, false, false, false, false, false, false, false, false, false, false, false, false] rfl rfl (by kernel_rfl) (fun _ _ _ h => h) (Or.inl ⟨by rfl, ?_⟩) ?_ ?_
          rotate_left
          · intro w'
            go_simp
            with_reducible rfl
          rotate_left
          · simp only [Act.put, List.setIfInBounds_toArray, List.set_cons_zero, List.set_cons_succ, i64_w, i32_w]
            rfl
          refine take_ (i := 3) (N := some 22) (v := ?_) (a' := ?_) #[true, true, true, true, false, false, false, false, false, false, false, false, false, false, false, false] rfl rfl (by kernel_rfl) (fun _ _ _ h => h) (Or.inl ⟨by rfl, ?_⟩) hHeld ?_ ?_
          rotate_left
          · intro w' hSw
            obtain ⟨s0, s1, s2, s3, s4⟩ := hSw
            go_simp
            with_reducible rfl
          rotate_left
          · simp only [Act.put, List.setIfInBounds_toArray, List.set_cons_zero, List.set_cons_succ, i64_w, i32_w]
            rfl
          refine pure_ (i := 5) (N := some 24) (v := ?_) (a' := ?_) #[true, true, true, true, false, true, false, false, false, false, false, false, false, false, false, false] rfl rfl (by kernel_rfl) (fun _ _ _ h => h) (Or.inl ⟨by rfl, ?_⟩) ?_ ?_
          rotate_left
          · intro w'
            go_simp
            with_reducible rfl
          rotate_left
          · simp only [Act.put, List.setIfInBounds_toArray, List.set_cons_zero, List.set_cons_succ, i64_w, i32_w]
            rfl
          refine pure_ (i := 7) (N := some 26) (v := ?_) (a' := ?_) #[true, true, true, true, false, true, false, true, false, false, false, false, false, false, false, false] rfl rfl (by kernel_rfl) (fun _ _ _ h => h) (Or.inl ⟨by rfl, ?_⟩) ?_ ?_
          rotate_left
          · intro w'
            go_simp
            with_reducible rfl
          rotate_left
          · simp only [Act.put, List.setIfInBounds_toArray, List.set_cons_zero, List.set_cons_succ, i64_w, i32_w]
            rfl
          refine take_ (i := 8) (N := some 27) (v := ?_) (a' := ?_) #[true, true, true, true, false, true, false, true, true, false, false, false, false, false, false, false] rfl rfl (by kernel_rfl) (fun _ _ _ h => h) (Or.inl ⟨by rfl, ?_⟩) hHeld ?_ ?_
          rotate_left
          · intro w' hSw
            obtain ⟨s0, s1, s2, s3, s4⟩ := hSw
            go_simp
            with_reducible rfl
          rotate_left
          · simp only [Act.put, List.setIfInBounds_toArray, List.set_cons_zero, List.set_cons_succ, i64_w, i32_w]
            rfl
          clear hHeld
          refine one_ (i := 4) (N := some 23) #[true, true, true, true, true, true, false, true, true, false, false, false, false, false, false, false] rfl rfl (by kernel_rfl) (by decide) (fun K hK => ?_)
          refine goes_ Tryd.func44 (by kernel_rfl) rfl #[.int .i64 now, .int .i64 C.f] (by rfl) rfl rfl (by (try simp only [List.map_toArray, List.map_cons, List.map_nil]); first | done | rfl | (simp only [List.length_drop, List.length_take]; rfl)) ?_
          (with_reducible refine (PX.out _).mono ?_)
          rintro e w11 ⟨rfl, rfl⟩
          refine ⟨_, rfl, ?_⟩
          refine hK.out _ _ (TS.out _ HB.out) (fun hHeld => ?_)
          clear hK K
          refine norm_ (a' := ?_) ?_ ?_
          rotate_left
          · show Act.put _ (some 23) _ = _
            simp only [Act.put, List.setIfInBounds_toArray, List.set_cons_zero, List.set_cons_succ, i64_w, i32_w]
            rfl
          refine pure_ (i := 6) (N := some 25) (v := ?_) (a' := ?_) #[true, true, true, true, true, true, true, true, true, false, false, false, false, false, false, false] rfl rfl (by kernel_rfl) (fun _ _ _ h => h) (Or.inl ⟨by rfl, ?_⟩) ?_ ?_
          rotate_left
          · intro w'
            go_simp
            with_reducible rfl
          rotate_left
          · simp only [Act.put, List.setIfInBounds_toArray, List.set_cons_zero, List.set_cons_succ, i64_w, i32_w]
            rfl
          refine pure_ (i := 9) (N := some 28) (v := ?_) (a' := ?_) #[true, true, true, true, true, true, true, true, true, true, false, false, false, false, false, false] rfl rfl (by kernel_rfl) (fun _ _ _ h => h) (Or.inl ⟨by rfl, ?_⟩) ?_ ?_
          rotate_left
          · intro w'
            go_simp
            with_reducible rfl
          rotate_left
          · simp only [Act.put, List.setIfInBounds_toArray, List.set_cons_zero, List.set_cons_succ, i64_w, i32_w]
            rfl
          try rw [hs1]
          try rw [hs5]
          try rw [hs2]
          generalize (ph + j) % C.f = q at CTi hs3 hs4 hw ⊢
          clear hHeld
          refine one_ (i := 10) (N := some 29) #[true, true, true, true, true, true, true, true, true, true, true, false, false, false, false, false] rfl rfl (by kernel_rfl) (by decide) (fun K hK => ?_)
          refine goes_ Tryd.func43 (by kernel_rfl) rfl #[.agg #[.int .i64 C.p, .int .i64 C.f, .slice A2 C.ws.length c2, .slice A3 C.ks.length c3, .slice A4 C.ac.length c4], .int .i64 q] (by rfl) rfl rfl (by (try simp only [List.map_toArray, List.map_cons, List.map_nil]); first | done | rfl | (simp only [List.length_drop, List.length_take]; rfl)) ?_
          (with_reducible refine (CTi.out _ (below_step HI.out.2 HB.out)).mono ?_)
          rintro e w11 ⟨rfl, hb⟩
          refine ⟨_, rfl, ?_⟩
          have HBn := Aside0.mk (below_step HB.out hb)
          clear HB
          have HB := HBn
          clear HBn
          clear hb
          refine hK.out _ _ (TS.out _ HB.out) (fun hHeld => ?_)
          clear hK K
          refine norm_ (a' := ?_) ?_ ?_
          rotate_left
          · show Act.put _ (some 29) _ = _
            simp only [Act.put, List.setIfInBounds_toArray, List.set_cons_zero, List.set_cons_succ, i64_w, i32_w]
            rfl
          refine pure_ (i := 11) (N := some 18) (v := ?_) (a' := ?_) #[true, true, true, true, true, true, true, true, true, true, true, true, false, false, false, false] rfl rfl (by kernel_rfl) (fun _ _ _ h => h) (Or.inl ⟨by rfl, ?_⟩) ?_ ?_
          rotate_left
          · intro w'
            go_simp
            with_reducible rfl
          rotate_left
          · simp only [Act.put, List.setIfInBounds_toArray, List.set_cons_zero, List.set_cons_succ, i64_w, i32_w]
            rfl
          refine pure_ (i := 12) (N := some 30) (v := ?_) (a' := ?_) #[true, true, true, true, true, true, true, true, true, true, true, true, true, false, false, false] rfl rfl (by kernel_rfl) (fun _ _ _ h => h) (Or.inl ⟨by rfl, ?_⟩) ?_ ?_
          rotate_left
          · intro w'
            go_simp
            with_reducible rfl
          rotate_left
          · simp only [Act.put, List.setIfInBounds_toArray, List.set_cons_zero, List.set_cons_succ, i64_w, i32_w]
            rfl
          refine pure_ (i := 13) (N := some 31) (v := ?_) (a' := ?_) #[true, true, true, true, true, true, true, true, true, true, true, true, true, true, false, false] rfl rfl (by kernel_rfl) (fun _ _ _ h => h) (Or.inl ⟨by rfl, ?_⟩) ?_ ?_
          rotate_left
          · intro w'
            go_simp
            with_reducible rfl
          rotate_left
          · simp only [Act.put, List.setIfInBounds_toArray, List.set_cons_zero, List.set_cons_succ, i64_w, i32_w]
            rfl
          refine pure_ (i := 14) (N := some 8) (v := ?_) (a' := ?_) #[true, true, true, true, true, true, true, true, true, true, true, true, true, true, true, false] rfl rfl (by kernel_rfl) (fun _ _ _ h => h) (Or.inl ⟨by rfl, ?_⟩) ?_ ?_
          rotate_left
          · intro w'
            go_simp
            with_reducible rfl
          rotate_left
          · simp only [Act.put, List.setIfInBounds_toArray, List.set_cons_zero, List.set_cons_succ, i64_w, i32_w]
            rfl
          refine pure_ (i := 15) (N := some 9) (v := ?_) (a' := ?_) #[true, true, true, true, true, true, true, true, true, true, true, true, true, true, true, true] rfl rfl (by kernel_rfl) (fun _ _ _ h => h) (Or.inl ⟨by rfl, ?_⟩) ?_ ?_
          rotate_left
          · intro w'
            go_simp
            with_reducible rfl
          rotate_left
          · simp only [Act.put, List.setIfInBounds_toArray, List.set_cons_zero, List.set_cons_succ, i64_w, i32_w]
            rfl
          refine done_ (by kernel_rfl) ?_
          go_wp2
          go_roundw
          case rel => exact ⟨j + 1, by first | rfl | rw [hi2] | go_num, by omega, by omega, ⟨blk_below HI.out.1 HB.out, below_step HI.out.2 HB.out⟩⟩
          case measure => simp [intOf]; omega
set_option maxHeartbeats 16000000 in
set_option maxRecDepth 100000 in
theorem rnth_any {C : Cfg} {A2 A3 A4 : Option Addr} {c2 c3 c4 : Nat} {w : World} (hX : CX w C A2 c2 A3 c3 A4 c4) (lk : C.ks.length ≤ 1000) (la : C.ac.length ≤ 1000) (lw : C.ws.length ≤ 1000) (o : Int) (m : Int) :
    Calls Tryd.prog 37 #[.agg #[.int .i64 C.p, .int .i64 C.f, .slice A2 C.ws.length c2, .slice A3 C.ks.length c3, .slice A4 C.ac.length c4], .int .i64 o, .int .i64 m] w fun e w' => e = .returned (.int .i64 (nthN C o m)) ∧ Below w.heap.size w w' := by
  have CC : Aside0 (∀ W : World, Below w.heap.size w W → Calls Tryd.prog 34 #[.agg #[.int .i64 C.p, .int .i64 C.f, .slice A2 C.ws.length c2, .slice A3 C.ks.length c3, .slice A4 C.ac.length c4], .int .i64 o] W fun e w' => e = .returned (.int .i64 (countN C o)) ∧ Below W.heap.size W w') := ⟨fun W hb => rcount_any (hX.below hb) lk la lw o⟩
  have H1 : Aside0 ((w.alloc (.cells #[.int .i64 C.p, .int .i64 C.f, .slice A2 C.ws.length c2, .slice A3 C.ks.length c3, .slice A4 C.ac.length c4] 26)).heap[w.heap.size]? = some (.cells #[.int .i64 C.p, .int .i64 C.f, .slice A2 C.ws.length c2, .slice A3 C.ks.length c3, .slice A4 C.ac.length c4] 26 (0, 0)) ∧ Below w.heap.size w (w.alloc (.cells #[.int .i64 C.p, .int .i64 C.f, .slice A2 C.ws.length c2, .slice A3 C.ks.length c3, .slice A4 C.ac.length c4] 26))) := ⟨⟨blk_new _ _, below_alloc (Below.refl _ _) _⟩⟩
  have b0 := (blk_cell H1.out.1 0).trans (show _ = some (.int .i64 C.p) from rfl)
  have b1 := (blk_cell H1.out.1 1).trans (show _ = some (.int .i64 C.f) from rfl)
  have b2 := (blk_cell H1.out.1 2).trans (show _ = some (.slice A2 C.ws.length c2) from rfl)
  have b3 := (blk_cell H1.out.1 3).trans (show _ = some (.slice A3 C.ks.length c3) from rfl)
  have b4 := (blk_cell H1.out.1 4).trans (show _ = some (.slice A4 C.ac.length c4) from rfl)
  by_cases hc : countN C o = 0
  ·
    have hun : nthN C o m = -1 := by unfold nthN; rw [if_pos hc]
    rw [hun]
    rw [hc] at CC
    clear hun hc hX lk la lw
    go_enter Tryd.func37, Tryd.ntmps37
    go_wp2_with (first | (go_at_call 34; (with_reducible refine (CC.out _ H1.out.2).mono ?_); rintro e w2 ⟨rfl, hb⟩; have H2 := Aside0.mk (And.intro (blk_below H1.out.1 hb) (below_step H1.out.2 hb)); clear hb b0 b1 b2 b3 b4))
    go_ret
    exact ⟨rfl, H2.out.2⟩
  ·
    have hok : okB C = true := by
      cases h : okB C
      · exact absurd (no_count h o) hc
      · rfl
    have hf := (ok_hd hok).2.1
    have hcn := countN_len C o
    have hps := phs_small C o
    obtain ⟨p, hp, hu, hat, hcp, hno⟩ := ok_nth hok (m := m) hc
    have CT : Aside0 (∀ (t : Int) (W : World), Below w.heap.size w W → Calls Tryd.prog 43 #[.agg #[.int .i64 C.p, .int .i64 C.f, .slice A2 C.ws.length c2, .slice A3 C.ks.length c3, .slice A4 C.ac.length c4], .int .i64 t] W fun e w' => e = .returned (.tuple #[.int .i64 ((atW t C.ws).getD 0), .bool (atW t C.ws).isSome]) ∧ Below W.heap.size W w') := ⟨fun t W hb => rat_any (hX.below hb) lk la lw hok t⟩
    have CH : Aside0 (∀ (t : Int) (W : World), 0 ≤ t → t ≤ 64 → Below w.heap.size w W → Calls Tryd.prog 45 #[.agg #[.int .i64 C.p, .int .i64 C.f, .slice A2 C.ws.length c2, .slice A3 C.ks.length c3, .slice A4 C.ac.length c4], .int .i64 o, .int .i64 t] W fun e w' => e = .returned (.int .i64 ((cnt t (phs C o) : Nat) : Int)) ∧ Below W.heap.size W w') := ⟨fun t W h0 h1 hb => rahead_any (hX.below hb) lk la lw hok o t h0 h1⟩
    have d1 : decide (countN C o = 0) = false := decide_eq_false hc
    have d2 : (countN C o == 0) = false := beq_eq_false_iff_ne.mpr hc
    have hc0 := (cut_bd m).1
    have hc1 := (cut_bd m).2
    have hk0 : 0 < countN C o := by omega
    have hk1 : countN C o ≤ 512 := by omega
    have hdv : Int.tdiv (cut m) (countN C o) = cut m / countN C o := Int.tdiv_eq_ediv_of_nonneg hc0
    have hmv : Int.tmod (cut m) (countN C o) = cut m % countN C o := Int.tmod_eq_emod_of_nonneg hc0
    have hr0 : 0 ≤ cut m / countN C o := Int.ediv_nonneg hc0 (by omega)
    have hr1 : cut m / countN C o ≤ 4611686018427387904 := Int.le_trans (Int.ediv_le_self _ hc0) hc1
    have hl0 := Int.emod_nonneg (cut m) (show countN C o ≠ 0 by omega)
    have hl1 := Int.emod_lt_of_pos (cut m) hk0
    rw [hu]
    have HNO := Aside0.mk hno
    have HCP := Aside0.mk hcp
    have HAT := Aside0.mk hat
    have CX1 := Aside0.mk (fun w => rcut_any m w)
    clear hcn hps hu hok hX lk la lw hc hno hcp hat
    generalize cut m / countN C o = rd at hdv hr0 hr1 ⊢
    generalize cut m % countN C o = lf at hmv hl0 hl1 HNO HCP
    generalize countN C o = k at CC d1 d2 hk0 hk1 hdv hmv hl1
    generalize cut m = cm at hc0 hc1 hdv hmv CX1
    obtain ⟨hp0, hp1⟩ := hp
    have CXA : Aside0 True := ⟨trivial⟩
    go_enter Tryd.func37, Tryd.ntmps37
    go_upto_region 6 with (first | (go_at_call 34; (with_reducible refine (CC.out _ H1.out.2).mono ?_); rintro e w2 ⟨rfl, hb⟩; have H2 := Aside0.mk (And.intro (blk_below H1.out.1 hb) (below_step H1.out.2 hb)); clear hb b0 b1 b2 b3 b4) | (go_at_call 49; (with_reducible refine (CX1.out _).mono ?_); rintro e w3 ⟨rfl, rfl⟩))
    clear CXA CC d1 d2 H1 CX1 hk0 hk1 hdv hmv hc0 hc1
    go_wp2
    go_loopw [10] (fun v10 wr => ∃ j : Int, v10 = .int .i64 j ∧ 0 ≤ j ∧ j ≤ p ∧ Aside0 (wr.heap[w.heap.size]? = some (.cells #[.int .i64 C.p, .int .i64 C.f, .slice A2 C.ws.length c2, .slice A3 C.ks.length c3, .slice A4 C.ac.length c4] 26 (0, 0)) ∧ Below w.heap.size w wr)) (fun v10 _ => (p - intOf v10).toNat)
    case atStart => exact ⟨0, rfl, by omega, by omega, H2⟩
    case round =>
      clear H2
      rename_i gv10
      obtain ⟨j, rfl, hj0, hj1, HI⟩ := hrel
      have b0 := (blk_cell HI.out.1 0).trans (show _ = some (.int .i64 C.p) from rfl)
      have b1 := (blk_cell HI.out.1 1).trans (show _ = some (.int .i64 C.f) from rfl)
      have b2 := (blk_cell HI.out.1 2).trans (show _ = some (.slice A2 C.ws.length c2) from rfl)
      have b3 := (blk_cell HI.out.1 3).trans (show _ = some (.slice A3 C.ks.length c3) from rfl)
      have b4 := (blk_cell HI.out.1 4).trans (show _ = some (.slice A4 C.ac.length c4) from rfl)
      have d1 : decide (j < C.f) = true := decide_eq_true (by omega)
      have hi2 : wrap64 (j + 1) = j + 1 := w64_in (by omega) (by omega)
      have CTi := Aside0.mk (CT.out j)
      have CHj := Aside0.mk (fun W => CH.out j W hj0 (by omega))
      by_cases hjp : j = p
      · subst hjp
        have hw := HAT.out
        have hop : (some o).getD 0 = o := rfl
        have hos : (some o).isSome = true := rfl
        rw [hw, hop, hos] at CTi
        rw [HCP.out] at CHj
        clear hos hop hw HNO HAT HCP
        go_wp2_with (first | (go_at_call 43; (with_reducible refine (CTi.out _ HI.out.2).mono ?_); rintro e w8 ⟨rfl, hb⟩; have H8 := Aside0.mk (And.intro (blk_below HI.out.1 hb) (below_step HI.out.2 hb)); clear hb b0 b1 b2 b3 b4; have b0 := (blk_cell H8.out.1 0).trans (show _ = some (.int .i64 C.p) from rfl); have b1 := (blk_cell H8.out.1 1).trans (show _ = some (.int .i64 C.f) from rfl); have b2 := (blk_cell H8.out.1 2).trans (show _ = some (.slice A2 C.ws.length c2) from rfl); have b3 := (blk_cell H8.out.1 3).trans (show _ = some (.slice A3 C.ks.length c3) from rfl); have b4 := (blk_cell H8.out.1 4).trans (show _ = some (.slice A4 C.ac.length c4) from rfl)) | (go_at_call 45; (with_reducible refine (CHj.out _ H8.out.2).mono ?_); rintro e w9 ⟨rfl, hb⟩; have H9 := Aside0.mk (And.intro (blk_below H8.out.1 hb) (below_step H8.out.2 hb)); clear hb b0 b1 b2 b3 b4; have b0 := (blk_cell H9.out.1 0).trans (show _ = some (.int .i64 C.p) from rfl); have b1 := (blk_cell H9.out.1 1).trans (show _ = some (.int .i64 C.f) from rfl); have b2 := (blk_cell H9.out.1 2).trans (show _ = some (.slice A2 C.ws.length c2) from rfl); have b3 := (blk_cell H9.out.1 3).trans (show _ = some (.slice A3 C.ks.length c3) from rfl); have b4 := (blk_cell H9.out.1 4).trans (show _ = some (.slice A4 C.ac.length c4) from rfl)) | (go_at_call 47; (with_reducible refine (rmul_any _ _ _).mono ?_); rintro e w10 ⟨rfl, rfl⟩) | (go_at_call 46; (with_reducible refine (radd_any _ _ _).mono ?_); rintro e w11 ⟨rfl, rfl⟩))
        go_ret
        exact ⟨rfl, H9.out.2⟩
      · have hna := HNO.out j hjp
        have hwo : atW j C.ws = some o ∨ atW j C.ws = none ∨ ∃ r, atW j C.ws = some r ∧ decide (r = o) = false ∧ (r == o) = false ∧ r ≠ o := by
          cases h : atW j C.ws with
          | none => exact Or.inr (Or.inl rfl)
          | some r =>
            by_cases hr : r = o
            · exact Or.inl (by rw [hr])
            · exact Or.inr (Or.inr ⟨r, rfl, decide_eq_false hr, beq_eq_false_iff_ne.mpr hr, hr⟩)
        rcases hwo with hw | hw | ⟨r, hw, hr1, hr2, hr3⟩
        ·
          rw [hw] at CTi
          have hop : (some o).getD 0 = o := rfl
          have hos : (some o).isSome = true := rfl
          rw [hop, hos] at CTi
          clear hop hos
          have hq := hna hw
          clear hna
          generalize ((cnt j (phs C o) : Nat) : Int) = q at hq CHj
          have q1 : decide (q = lf) = false := decide_eq_false hq
          have q2 : (q == lf) = false := beq_eq_false_iff_ne.mpr hq
          clear hq hw
          go_wp2_with (first | (go_at_call 43; (with_reducible refine (CTi.out _ HI.out.2).mono ?_); rintro e w8 ⟨rfl, hb⟩; have H8 := Aside0.mk (And.intro (blk_below HI.out.1 hb) (below_step HI.out.2 hb)); clear hb b0 b1 b2 b3 b4; have b0 := (blk_cell H8.out.1 0).trans (show _ = some (.int .i64 C.p) from rfl); have b1 := (blk_cell H8.out.1 1).trans (show _ = some (.int .i64 C.f) from rfl); have b2 := (blk_cell H8.out.1 2).trans (show _ = some (.slice A2 C.ws.length c2) from rfl); have b3 := (blk_cell H8.out.1 3).trans (show _ = some (.slice A3 C.ks.length c3) from rfl); have b4 := (blk_cell H8.out.1 4).trans (show _ = some (.slice A4 C.ac.length c4) from rfl)) | (go_at_call 45; (with_reducible refine (CHj.out _ H8.out.2).mono ?_); rintro e w9 ⟨rfl, hb⟩; have H9 := Aside0.mk (And.intro (blk_below H8.out.1 hb) (below_step H8.out.2 hb)); clear hb b0 b1 b2 b3 b4; have b0 := (blk_cell H9.out.1 0).trans (show _ = some (.int .i64 C.p) from rfl); have b1 := (blk_cell H9.out.1 1).trans (show _ = some (.int .i64 C.f) from rfl); have b2 := (blk_cell H9.out.1 2).trans (show _ = some (.slice A2 C.ws.length c2) from rfl); have b3 := (blk_cell H9.out.1 3).trans (show _ = some (.slice A3 C.ks.length c3) from rfl); have b4 := (blk_cell H9.out.1 4).trans (show _ = some (.slice A4 C.ac.length c4) from rfl)))
          go_roundw
          case rel => exact ⟨j + 1, by first | rfl | rw [hi2] | go_num, by omega, by omega, H9⟩
          case measure => simp [intOf]; omega
        ·
          rw [hw] at CTi
          have hos : (none : Option Int).isSome = false := rfl
          rw [hos] at CTi
          clear hos
          generalize (none : Option Int).getD 0 = a at CTi
          have hne : (none : Option Int) ≠ some o := fun e => by cases e
          clear hna hne hw
          go_wp2_with (first | (go_at_call 43; (with_reducible refine (CTi.out _ HI.out.2).mono ?_); rintro e w8 ⟨rfl, hb⟩; have H8 := Aside0.mk (And.intro (blk_below HI.out.1 hb) (below_step HI.out.2 hb)); clear hb b0 b1 b2 b3 b4; have b0 := (blk_cell H8.out.1 0).trans (show _ = some (.int .i64 C.p) from rfl); have b1 := (blk_cell H8.out.1 1).trans (show _ = some (.int .i64 C.f) from rfl); have b2 := (blk_cell H8.out.1 2).trans (show _ = some (.slice A2 C.ws.length c2) from rfl); have b3 := (blk_cell H8.out.1 3).trans (show _ = some (.slice A3 C.ks.length c3) from rfl); have b4 := (blk_cell H8.out.1 4).trans (show _ = some (.slice A4 C.ac.length c4) from rfl)))
          go_roundw
          case rel => exact ⟨j + 1, by first | rfl | rw [hi2] | go_num, by omega, by omega, H8⟩
          case measure => simp [intOf]; omega
        ·
          rw [hw] at CTi
          have hop : (some r).getD 0 = r := rfl
          have hos : (some r).isSome = true := rfl
          rw [hop, hos] at CTi
          clear hop hos
          have hne : some r ≠ some o := fun e => hr3 (Option.some.inj e)
          clear hr3
          clear hna hne hw
          go_wp2_with (first | (go_at_call 43; (with_reducible refine (CTi.out _ HI.out.2).mono ?_); rintro e w8 ⟨rfl, hb⟩; have H8 := Aside0.mk (And.intro (blk_below HI.out.1 hb) (below_step HI.out.2 hb)); clear hb b0 b1 b2 b3 b4; have b0 := (blk_cell H8.out.1 0).trans (show _ = some (.int .i64 C.p) from rfl); have b1 := (blk_cell H8.out.1 1).trans (show _ = some (.int .i64 C.f) from rfl); have b2 := (blk_cell H8.out.1 2).trans (show _ = some (.slice A2 C.ws.length c2) from rfl); have b3 := (blk_cell H8.out.1 3).trans (show _ = some (.slice A3 C.ks.length c3) from rfl); have b4 := (blk_cell H8.out.1 4).trans (show _ = some (.slice A4 C.ac.length c4) from rfl)))
          go_roundw
          case rel => exact ⟨j + 1, by first | rfl | rw [hi2] | go_num, by omega, by omega, H8⟩
          case measure => simp [intOf]; omega
set_option maxHeartbeats 16000000 in
set_option maxRecDepth 100000 in
theorem rserves_any {C : Cfg} {A2 A3 A4 : Option Addr} {c2 c3 c4 : Nat} {w : World} (hX : CX w C A2 c2 A3 c3 A4 c4) (lk : C.ks.length ≤ 1000) (la : C.ac.length ≤ 1000) (lw : C.ws.length ≤ 1000) (now : Int) :
    Calls Tryd.prog 33 #[.agg #[.int .i64 C.p, .int .i64 C.f, .slice A2 C.ws.length c2, .slice A3 C.ks.length c3, .slice A4 C.ac.length c4], .int .i64 now] w fun e w' => e = .returned (.tuple #[.int .i64 ((servesN C now).getD 0), .bool (servesN C now).isSome]) ∧ Below w.heap.size w w' := by
  have CW : Aside0 (∀ W : World, Below w.heap.size w W → Calls Tryd.prog 32 #[.agg #[.int .i64 C.p, .int .i64 C.f, .slice A2 C.ws.length c2, .slice A3 C.ks.length c3, .slice A4 C.ac.length c4], .int .i64 now] W fun e w' => e = .returned (.tuple #[.int .i64 ((whoN C now).getD 0), .bool (whoN C now).isSome]) ∧ Below W.heap.size W w') := ⟨fun W hb => rwhose_any (hX.below hb) lk la lw now⟩
  have CB : Aside0 (∀ W : World, Below w.heap.size w W → Calls Tryd.prog 35 #[.agg #[.int .i64 C.p, .int .i64 C.f, .slice A2 C.ws.length c2, .slice A3 C.ks.length c3, .slice A4 C.ac.length c4], .int .i64 (-1), .int .i64 now] W fun e w' => e = .returned (.int .i64 (beforeN C (-1) now)) ∧ Below W.heap.size W w') := ⟨fun W hb => rbefore_any (hX.below hb) lk la lw (-1) now⟩
  have HX := Aside0.mk hX.k
  have hbd := before_bd C (-1) now
  have hql := qu_len C.ks C.ks.length
  have HV : Aside0 (servesN C now = if whoN C now = some (-1) then (if qs C = [] then none else some (rd (qs C) ((beforeN C (-1) now).tmod (qs C).length))) else none) := ⟨rfl⟩
  generalize servesN C now = res at HV ⊢
  generalize beforeN C (-1) now = bf at CB HV hbd
  clear hX la lw
  obtain ⟨wh, hwh⟩ : ∃ wh, whoN C now = wh := ⟨_, rfl⟩
  rw [hwh] at CW HV
  clear hwh
  have H1 : Aside0 ((w.alloc (.cells #[.int .i64 C.p, .int .i64 C.f, .slice A2 C.ws.length c2, .slice A3 C.ks.length c3, .slice A4 C.ac.length c4] 26)).heap[w.heap.size]? = some (.cells #[.int .i64 C.p, .int .i64 C.f, .slice A2 C.ws.length c2, .slice A3 C.ks.length c3, .slice A4 C.ac.length c4] 26 (0, 0)) ∧ Below w.heap.size w (w.alloc (.cells #[.int .i64 C.p, .int .i64 C.f, .slice A2 C.ws.length c2, .slice A3 C.ks.length c3, .slice A4 C.ac.length c4] 26))) := ⟨⟨blk_new _ _, below_alloc (Below.refl _ _) _⟩⟩
  have b0 := (blk_cell H1.out.1 0).trans (show _ = some (.int .i64 C.p) from rfl)
  have b1 := (blk_cell H1.out.1 1).trans (show _ = some (.int .i64 C.f) from rfl)
  have b2 := (blk_cell H1.out.1 2).trans (show _ = some (.slice A2 C.ws.length c2) from rfl)
  have b3 := (blk_cell H1.out.1 3).trans (show _ = some (.slice A3 C.ks.length c3) from rfl)
  have b4 := (blk_cell H1.out.1 4).trans (show _ = some (.slice A4 C.ac.length c4) from rfl)
  by_cases hr : wh = some (-1)
  · subst hr
    have HV2 : Aside0 (res = if qs C = [] then none else some (rd (qs C) (bf.tmod (qs C).length))) := ⟨by rw [HV.out, if_pos rfl]⟩
    clear HV
    have hop : (some (-1 : Int)).getD 0 = -1 := rfl
    have hos : (some (-1 : Int)).isSome = true := rfl
    rw [hop, hos] at CW
    clear hop hos
    go_enter Tryd.func33, Tryd.ntmps33
    go_wp2_with (first | (go_at_call 32; (with_reducible refine (CW.out _ H1.out.2).mono ?_); rintro e w2 ⟨rfl, hb⟩; have H2 := Aside0.mk (And.intro (blk_below H1.out.1 hb) (below_step H1.out.2 hb)); clear hb b0 b1 b2 b3 b4))
    have I1 : Aside0 (SS w w2 (.slice none 0 0) (qu C.ks 0) #[.int .i64 C.p, .int .i64 C.f, .slice A2 C.ws.length c2, .slice A3 C.ks.length c3, .slice A4 C.ac.length c4]) := ⟨⟨H2.out.1, Kd.R_nil _ _ _ _ _, H2.out.2⟩⟩
    clear H2 CW
    go_loopw [8, 9] (fun v8 v9 wr => ∃ j : Nat, v9 = .int .i64 j ∧ j ≤ C.ks.length ∧ Aside0 (SS w wr v8 (qu C.ks j) #[.int .i64 C.p, .int .i64 C.f, .slice A2 C.ws.length c2, .slice A3 C.ks.length c3, .slice A4 C.ac.length c4])) (fun _ v9 _ => C.ks.length - (intOf v9).toNat)
    case atStart => exact ⟨0, rfl, by omega, I1⟩
    case round =>
      clear I1
      rename_i gv8 gv9
      obtain ⟨j, rfl, hj, HI⟩ := hrel
      have b0 := (blk_cell HI.out.bg 0).trans (show _ = some (.int .i64 C.p) from rfl)
      have b1 := (blk_cell HI.out.bg 1).trans (show _ = some (.int .i64 C.f) from rfl)
      have b2 := (blk_cell HI.out.bg 2).trans (show _ = some (.slice A2 C.ws.length c2) from rfl)
      have b3 := (blk_cell HI.out.bg 3).trans (show _ = some (.slice A3 C.ks.length c3) from rfl)
      have b4 := (blk_cell HI.out.bg 4).trans (show _ = some (.slice A4 C.ac.length c4) from rfl)
      by_cases hlt : j < C.ks.length
      · have d1 : decide ((j : Int) < (C.ks.length : Int)) = true := decide_eq_true (by omega)
        have d1n : decide (j < C.ks.length) = true := decide_eq_true hlt
        have hcs := at_T37 (Kd.C_below HX.out HI.out.bel) (j : Int) (by omega) (by omega)
        rw [show rd_T37 C.ks (j : Int) = C.ks[j] by simp [rd_T37, hlt], Int.toNat_natCast] at hcs
        have HY := Aside0.mk (fun h => qu_yes (ks := C.ks) hlt h)
        have HN := Aside0.mk (fun h => qu_no (ks := C.ks) hlt h)
        have hjl := qu_len C.ks j
        generalize C.ks[j] = x at hcs HY HN
        obtain ⟨x0, x1, x2, x3, x4, x5, x6, x7, x8, x9, x10⟩ := x
        obtain ⟨ad, rfl, e0, e1, e2, e3, e4, e5, e6, e7, e8, e9, e10⟩ := hcs
        simp only [] at e0 HY HN
        clear e1 e2 e3 e4 e5 e6 e7 e8 e9 e10
        have hj0 : 0 ≤ (j : Int) := by omega
        have hj1 : (j : Int) < C.ks.length := by omega
        by_cases hk : x0 = 1
        · have q1 : decide (x0 = 1) = true := decide_eq_true hk
          have q2 : (x0 == 1) = true := beq_iff_eq.mpr hk
          have HYY := Aside0.mk (HY.out hk)
          clear hk
          go_wp2_with (first | ((with_reducible refine gate_builtin (b := .append) (xs := #[.tmp 36, .tmp 38]) rfl ?_); at_builtin; refine Kd.R_append (Kd.int .i64) (w0 := w) w.heap.size rfl (.tmp 36) (.tmp 38) 24 3 (.int .i64 0) 8 rfl Tryd.underlying24 info3 rfl (by decide) (by omega) _ (qu C.ks j) (j : Int) [.int .i64 j] (fun k => w.heap.size ≤ k) (fun _ => False) rfl rfl ?aP (fun _ hk => hk.elim) ?aF HI.out.r HI.out.bel ?aS ?aL ?_; (case aP => exact rfl); (case aF => exact (fun k hk => Nat.le_trans HI.out.bel.size hk)); (case aS => exact HI.out.bel.size); (case aL => omega); intro v9 w9 ho hb hg9 hat; have HI9 : Aside0 (SS w w9 v9 (qu C.ks j ++ [(j : Int)]) _) := ⟨blk_grown HI.out.bg hg9 (Kd.R_ne HI.out.r HI.out.bg (by decide)), ho, hb⟩; clear ho hb hg9 hat))
          go_roundw
          case rel => exact ⟨j + 1, by go_num, by omega, by rw [HYY.out]; exact HI9⟩
          case measure => simp [intOf]; omega
        · have q1 : decide (x0 = 1) = false := decide_eq_false hk
          have q2 : (x0 == 1) = false := beq_eq_false_iff_ne.mpr hk
          have HNN := Aside0.mk (HN.out hk)
          clear hk
          go_wp2
          go_roundw
          case rel => exact ⟨j + 1, by go_num, by omega, by rw [HNN.out]; exact HI⟩
          case measure => simp [intOf]; omega
      · have d1 : decide ((j : Int) < (C.ks.length : Int)) = false := decide_eq_false (by omega)
        have d1n : decide (j < C.ks.length) = false := decide_eq_false hlt
        obtain rfl : j = C.ks.length := by omega
        have hqq : qu C.ks C.ks.length = qs C := rfl
        rw [hqq] at HI hql
        clear hqq
        obtain ⟨B, d, rfl, hd, hcq⟩ := Kd.R_reads HI.out.r
        generalize qs C = q at HI HV2 hql hd hcq
        have HCQ := Aside0.mk hcq
        clear hcq
        by_cases hq : q = []
        · subst hq
          have HR : Aside0 (res = none) := ⟨by rw [HV2.out, if_pos rfl]⟩
          simp only [List.length_nil]
          go_wp2
          refine bodyPost_ret (results_tmp2 rfl _ _ _) rfl ?_
          rw [HR.out]
          exact ⟨rfl, HI.out.bel⟩
        · have hR : res = some (rd q (bf.tmod q.length)) := by rw [HV2.out, if_neg hq]
          have hql0 : 0 < q.length := List.length_pos_iff.2 hq
          have HR := Aside0.mk hR
          clear hR hq
          obtain ⟨n, hn⟩ : ∃ n, q.length = n := ⟨_, rfl⟩
          rw [hn] at hql0 hql hd HCQ HR ⊢
          clear hn
          have hnz : (n : Int) ≠ 0 := by omega
          have g1 : decide ((n : Int) = 0) = false := decide_eq_false hnz
          have g2 : ((n : Int) == 0) = false := beq_eq_false_iff_ne.mpr hnz
          have g3 : decide (n = 0) = false := decide_eq_false (by omega)
          have g4 : (n == 0) = false := beq_eq_false_iff_ne.mpr (by omega)
          have i0 : 0 ≤ bf.tmod n := Int.tmod_nonneg _ hbd.1
          have i1 : bf.tmod n < n := Int.tmod_lt_of_pos _ (by omega)
          generalize hi : bf.tmod (n : Int) = i at i0 i1 HR
          go_wp2_with (first | (go_at_call 35; (with_reducible refine (CB.out _ HI.out.bel).mono ?_); rintro e w3 ⟨rfl, hb⟩; obtain ⟨ad, rfl, hcell0⟩ := Kd.at_int (Kd.C_below HCQ.out hb) i i0 i1; have HB3 := Aside0.mk (below_step HI.out.bel hb); clear hb))
          refine bodyPost_ret (results_tmp2 rfl _ _ _) rfl ?_
          rw [HR.out]
          exact ⟨rfl, HB3.out⟩
  · have HR : Aside0 (res = none) := ⟨by rw [HV.out, if_neg hr]⟩
    clear HV
    cases wh with
    | none =>
      have hos : (none : Option Int).isSome = false := rfl
      rw [hos] at CW
      clear hos
      go_enter Tryd.func33, Tryd.ntmps33
      go_wp2_with (first | (go_at_call 32; (with_reducible refine (CW.out _ H1.out.2).mono ?_); rintro e w2 ⟨rfl, hb⟩; have H2 := Aside0.mk (And.intro (blk_below H1.out.1 hb) (below_step H1.out.2 hb)); clear hb b0 b1 b2 b3 b4))
      refine bodyPost_ret (results_tmp2 rfl _ _ _) rfl ?_
      rw [HR.out]
      exact ⟨rfl, H2.out.2⟩
    | some r =>
      have hrn : r ≠ -1 := fun h => hr (by rw [h])
      have d1 : decide (r = -1) = false := decide_eq_false hrn
      have d2 : (r == -1) = false := beq_eq_false_iff_ne.mpr hrn
      have hop : (some r).getD 0 = r := rfl
      have hos : (some r).isSome = true := rfl
      rw [hop, hos] at CW
      clear hop hos hr hrn
      go_enter Tryd.func33, Tryd.ntmps33
      go_wp2_with (first | (go_at_call 32; (with_reducible refine (CW.out _ H1.out.2).mono ?_); rintro e w2 ⟨rfl, hb⟩; have H2 := Aside0.mk (And.intro (blk_below H1.out.1 hb) (below_step H1.out.2 hb)); clear hb b0 b1 b2 b3 b4))
      refine bodyPost_ret (results_tmp2 rfl _ _ _) rfl ?_
      rw [HR.out]
      exact ⟨rfl, H2.out.2⟩
end Go.Proofs.YtmmkbgilcggkkaaDoor.Wn
