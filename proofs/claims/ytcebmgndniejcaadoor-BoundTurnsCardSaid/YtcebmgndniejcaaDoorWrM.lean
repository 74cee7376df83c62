/- Layer 13 (window): Wr, Wr2, laid into one text by wip/bmerge.py. -/
import Derived.Test.YtcebmgndniejcaaDoorWm
import Derived.Test.YtcebmgndniejcaaDoorRm
import Derived.Deep.RegionHeld3
/- Layers 1 and 13 (window): what the document's answers come to, by hand. -/
set_option linter.unusedVariables false
set_option linter.unusedSimpArgs false
namespace Go.Proofs.YtcebmgndniejcaaDoor.Sat
open Go.RowKit Go.Proofs.YtcebmgndniejcaaDoorW.PrintWords Go.Proofs.YtcebmgndniejcaaDoorW.PrintLast Go.Proofs.YtcebmgndniejcaaDoorW.PrintMore
attribute [local go_sem] max2_int min2_int max_two min_two max_three min_three max_four min_four
theorem rcut_any (a : Int) (w : World) : Calls Tryd.prog 50 #[.int .i64 a] w fun e w' => e = .returned (.int .i64 (cut a)) ∧ w = w' := by
  by_cases c1 : a < 0
  · have c1' : decide (a < 0) = true := decide_eq_true c1
    have hr : cut a = 0 := cut_neg (by omega)
    have HR := Aside0.mk hr
    clear hr c1
    go_enter Tryd.func50, Tryd.ntmps50
    go_wp2
    go_ret
    exact ⟨ret_int HR.out.symm, rfl⟩
  · have c1' : decide (a < 0) = false := decide_eq_false c1
    by_cases c2 : 4611686018427387904 < a
    · have c2' : decide (4611686018427387904 < a) = true := decide_eq_true c2
      have hr : cut a = 4611686018427387904 := cut_big (by omega)
      have HR := Aside0.mk hr
      clear hr c1 c2
      go_enter Tryd.func50, Tryd.ntmps50
      go_wp2
      go_ret
      exact ⟨ret_int HR.out.symm, rfl⟩
    · have c2' : decide (4611686018427387904 < a) = false := decide_eq_false c2
      have hr : cut a = a := cut_in (by omega) (by omega)
      have HR := Aside0.mk hr
      clear hr c1 c2
      go_enter Tryd.func50, Tryd.ntmps50
      go_wp2
      go_ret
      exact ⟨ret_int HR.out.symm, rfl⟩
theorem rframe_any (a : Int) (w : World) : Calls Tryd.prog 55 #[.int .i64 a] w fun e w' => e = .returned (.int .i64 (fr a)) ∧ w = w' := by
  obtain ⟨m, hm⟩ : ∃ m : Int, (if a < 1 then 1 else a) = m := ⟨_, rfl⟩
  have hm2 : (if 64 < m then 64 else m) = fr a := by
    rw [← hm]
    unfold fr
    split <;> rfl
  go_enter Tryd.func55, Tryd.ntmps55
  go_wp2
  go_ret
  exact ⟨rfl, rfl⟩
theorem rphase_any (a n : Int) (w : World) : Calls Tryd.prog 40 #[.int .i64 a, .int .i64 n] w fun e w' => e = .returned (.int .i64 (cut a % fr n)) ∧ w = w' := by
  obtain ⟨p1, p2⟩ := cut_bd a
  obtain ⟨q1, q2⟩ := fr_bd n
  go_enter Tryd.func40, Tryd.ntmps40
  go_wp2_with (first | (go_at_call 50; refine (rcut_any _ _).mono ?_; rintro e w' ⟨rfl, rfl⟩) | (go_at_call 55; refine (rframe_any _ _).mono ?_; rintro e w' ⟨rfl, rfl⟩))
  go_ret
  exact ⟨rfl, rfl⟩
theorem rround_any (a n : Int) (w : World) : Calls Tryd.prog 49 #[.int .i64 a, .int .i64 n] w fun e w' => e = .returned (.int .i64 (cut a / fr n)) ∧ w = w' := by
  obtain ⟨p1, p2⟩ := cut_bd a
  obtain ⟨q1, q2⟩ := fr_bd n
  go_enter Tryd.func49, Tryd.ntmps49
  go_wp2_with (first | (go_at_call 50; refine (rcut_any _ _).mono ?_; rintro e w' ⟨rfl, rfl⟩) | (go_at_call 55; refine (rframe_any _ _).mono ?_; rintro e w' ⟨rfl, rfl⟩))
  go_ret
  exact ⟨rfl, rfl⟩
theorem radd_any (a b : Int) (w : World) : Calls Tryd.prog 34 #[.int .i64 a, .int .i64 b] w fun e w' => e = .returned (.int .i64 (tadd a b)) ∧ w = w' := by
  have hx := cut_bd a
  have hy := cut_bd b
  have HA := Aside0.mk (fun w => rcut_any a w)
  have HB := Aside0.mk (fun w => rcut_any b w)
  have HV : Aside0 (tadd a b = cut (cut a + cut b)) := ⟨rfl⟩
  generalize cut a = x at hx HA HV
  generalize cut b = y at hy HB HV
  obtain ⟨x0, x1⟩ := hx
  obtain ⟨y0, y1⟩ := hy
  by_cases c : 4611686018427387904 - y < x
  · have c' : decide (4611686018427387904 - y < x) = true := decide_eq_true c
    have hr := HV.out.trans (cut_big (by omega))
    have HR := Aside0.mk hr
    clear hr HV c
    go_enter Tryd.func34, Tryd.ntmps34
    go_wp2_with (first | (go_at_call 50; (with_reducible refine (HA.out _).mono ?_); rintro e w' ⟨rfl, rfl⟩) | (go_at_call 50; (with_reducible refine (HB.out _).mono ?_); rintro e w' ⟨rfl, rfl⟩))
    go_ret
    exact ⟨ret_int HR.out.symm, rfl⟩
  · have c' : decide (4611686018427387904 - y < x) = false := decide_eq_false c
    have hr := HV.out.trans (cut_in (by omega) (by omega))
    have HR := Aside0.mk hr
    clear hr HV
    have hle : x + y ≤ 4611686018427387904 := by omega
    clear c
    go_enter Tryd.func34, Tryd.ntmps34
    go_wp2_with (first | (go_at_call 50; (with_reducible refine (HA.out _).mono ?_); rintro e w' ⟨rfl, rfl⟩) | (go_at_call 50; (with_reducible refine (HB.out _).mono ?_); rintro e w' ⟨rfl, rfl⟩))
    go_ret
    exact ⟨ret_int HR.out.symm, rfl⟩
theorem rmul_any (a b : Int) (w : World) : Calls Tryd.prog 48 #[.int .i64 a, .int .i64 b] w fun e w' => e = .returned (.int .i64 (tmul a b)) ∧ w = w' := by
  have hx := cut_bd a
  have hy := cut_bd b
  have HA := Aside0.mk (fun w => rcut_any a w)
  have HB := Aside0.mk (fun w => rcut_any b w)
  have HV : Aside0 (tmul a b = cut (cut a * cut b)) := ⟨rfl⟩
  generalize cut a = x at hx HA HV
  generalize cut b = y at hy HB HV
  obtain ⟨x0, x1⟩ := hx
  obtain ⟨y0, y1⟩ := hy
  by_cases c0 : x = 0
  · subst c0
    have hr : tmul a b = 0 := by rw [HV.out, Int.zero_mul]; decide
    have HR := Aside0.mk hr
    clear hr HV
    go_enter Tryd.func48, Tryd.ntmps48
    go_wp2_with (first | (go_at_call 50; (with_reducible refine (HA.out _).mono ?_); rintro e w' ⟨rfl, rfl⟩) | (go_at_call 50; (with_reducible refine (HB.out _).mono ?_); rintro e w' ⟨rfl, rfl⟩))
    go_ret
    exact ⟨ret_int (by rw [HR.out]; try simp), rfl⟩
  · have xp : 0 < x := by omega
    have g0 : decide (0 < x) = true := decide_eq_true xp
    have g1 : decide (x = 0) = false := decide_eq_false c0
    have g2 : (x == 0) = false := beq_eq_false_iff_ne.mpr c0
    have hq1 := Int.emod_add_mul_ediv 4611686018427387904 x
    have hq2 := Int.emod_nonneg 4611686018427387904 c0
    have hq3 := Int.emod_lt_of_pos 4611686018427387904 xp
    have hq4 : 0 ≤ 4611686018427387904 / x := Int.ediv_nonneg (by decide) x0
    have hq5 : 4611686018427387904 / x ≤ 4611686018427387904 := Int.ediv_le_self _ (by decide)
    have hqe : Int.tdiv 4611686018427387904 x = 4611686018427387904 / x := Int.tdiv_eq_ediv_of_nonneg (by decide)
    generalize 4611686018427387904 / x = q at hq1 hq4 hq5 hqe
    generalize (4611686018427387904 : Int) % x = r at hq1 hq2 hq3
    by_cases c : q < y
    · have c' : decide (q < y) = true := decide_eq_true c
      have h1 : x * (q + 1) ≤ x * y := Int.mul_le_mul_of_nonneg_left (by omega) x0
      rw [Int.mul_add, Int.mul_one] at h1
      have hr := HV.out.trans (cut_big (by omega))
      have HR := Aside0.mk hr
      clear hr HV c h1 hq1 hq2 hq3
      go_enter Tryd.func48, Tryd.ntmps48
      go_wp2_with (first | (go_at_call 50; (with_reducible refine (HA.out _).mono ?_); rintro e w' ⟨rfl, rfl⟩) | (go_at_call 50; (with_reducible refine (HB.out _).mono ?_); rintro e w' ⟨rfl, rfl⟩))
      go_ret
      exact ⟨ret_int HR.out.symm, rfl⟩
    · have c' : decide (q < y) = false := decide_eq_false c
      have h1 : x * y ≤ x * q := Int.mul_le_mul_of_nonneg_left (by omega) x0
      have h2 := Int.mul_nonneg x0 y0
      have hr := HV.out.trans (cut_in h2 (by omega))
      have hxy : wrap64 (x * y) = x * y := w64_in (by omega) (by omega)
      have hxyI : IntKind.i64.wrap (x * y) = x * y := (IntWalk.i64_left _).trans hxy
      have HR := Aside0.mk hr
      clear hr HV c h1 h2 hq1 hq2 hq3
      go_enter Tryd.func48, Tryd.ntmps48
      go_wp2_with (first | (go_at_call 50; (with_reducible refine (HA.out _).mono ?_); rintro e w' ⟨rfl, rfl⟩) | (go_at_call 50; (with_reducible refine (HB.out _).mono ?_); rintro e w' ⟨rfl, rfl⟩))
      go_ret
      exact ⟨ret_int HR.out.symm, rfl⟩
end Go.Proofs.YtcebmgndniejcaaDoor.Sat
namespace Go.Proofs.YtcebmgndniejcaaDoor.Wn
open Go Go.RowKit Go.Shelf Go.Proofs.YtcebmgndniejcaaDoorW.PrintWords Go.Proofs.YtcebmgndniejcaaDoorW.PrintLast Go.Proofs.YtcebmgndniejcaaDoorW.PrintMore Go.Proofs.YtcebmgndniejcaaDoor.Cz Go.Proofs.YtcebmgndniejcaaDoor.PBoundWaits Go.Proofs.YtcebmgndniejcaaDoor.Cf Go.Proofs.YtcebmgndniejcaaDoor.Sat
attribute [local go_sem] Tryd.underlying26 Tryd.underlying41 Tryd.underlying43
theorem no_phs {C : Cfg} (h : okB C = false) (o : Int) : phs C o = [] := by unfold phs; rw [h]; rfl
theorem no_who {C : Cfg} (h : okB C = false) (now : Int) : whoN C now = none := by unfold whoN; rw [h]; rfl
theorem no_serves {C : Cfg} (h : okB C = false) (now : Int) : servesN C now = none := by unfold servesN; rw [no_who h, if_neg (by intro h; cases h)]
theorem no_below {C : Cfg} (h : okB C = false) (o ph : Int) : belowN C o ph = 0 := by unfold belowN; rw [no_phs h]; rfl
theorem no_count {C : Cfg} (h : okB C = false) (o : Int) : countN C o = 0 := no_below h o 64
theorem no_before {C : Cfg} (h : okB C = false) (o now : Int) : beforeN C o now = 0 := by
  unfold beforeN
  rw [no_count h, no_below h]
  have h1 := cut_bd (cut now / fr C.f)
  have h2 : tmul (cut now / fr C.f) 0 = 0 := by
    unfold tmul
    rw [show cut 0 = 0 from by decide, Int.mul_zero]
    decide
  rw [h2]
  decide
theorem no_until {C : Cfg} (h : okB C = false) (o now : Int) : untilN C o now = -1 := by unfold untilN; rw [no_phs h]; rfl
theorem no_nth {C : Cfg} (h : okB C = false) (o m : Int) : nthN C o m = -1 := by unfold nthN; rw [no_count h, if_pos rfl]
/-! The plain law: an owner's phases of a config that may be. -/
theorem scan_chain {p f : Int} : ∀ {en : Int} {i : Nat} {l : List S41}, scanW p f en i l = none → chain p en l
  | en, i, [], _ => trivial
  | en, i, y :: t, h => by
    have h' : (if badW p f en y = true then some i else scanW p f (y.f1 + y.f2) (i + 1) t) = none := h
    cases hb : badW p f en y
    · rw [hb, if_neg (by decide)] at h'
      unfold badW btw at hb
      simp only [Bool.or_eq_false_iff, Bool.not_eq_false', decide_eq_false_iff_not, decide_eq_true_eq] at hb
      exact ⟨⟨by omega, by omega, by omega⟩, scan_chain h'⟩
    · rw [hb, if_pos rfl] at h'
      cases h'
section
variable {C : Cfg} (h : okB C = true)
include h
theorem ok_chain : chain C.p 0 C.ws := scan_chain (ok_scan h)
theorem ok_rise (o : Int) : (phs C o).Pairwise (· < ·) := by
  unfold phs
  rw [if_pos h]
  exact flat_rise (ok_chain h)
theorem ok_mem {o q : Int} : q ∈ phs C o ↔ atW q C.ws = some o := by
  unfold phs
  rw [if_pos h, atW_iff (ok_chain h), List.mem_flatMap]
  constructor
  · rintro ⟨x, hx, hq⟩
    exact ⟨x, hx, phW_mem hq⟩
  · rintro ⟨x, hx, hq⟩
    exact ⟨x, hx, phW_iff.2 hq⟩
theorem ok_phase (now : Int) : phase C now = cut now % C.f ∧ 0 ≤ phase C now ∧ phase C now < C.f := by
  have h1 := ok_hd h
  have h2 : phase C now = cut now % C.f := by unfold phase; rw [fr_in h1.2.1.1 h1.2.1.2]
  exact ⟨h2, by rw [h2]; exact Int.emod_nonneg _ (by omega), by rw [h2]; exact Int.emod_lt_of_pos _ (by omega)⟩
theorem ok_zero (o : Int) : cnt 0 (phs C o) = 0 := by
  have _hh := h
  exact cnt_none (fun p hp => (phs_mem hp).2.1)
theorem ok_up (o q : Int) : cnt (q + 1) (phs C o) = cnt q (phs C o) + (if atW q C.ws = some o then 1 else 0) := by
  rw [cnt_succ (ok_rise h o) q]
  by_cases hq : q ∈ phs C o
  · rw [if_pos hq, if_pos ((ok_mem h).1 hq)]
  · rw [if_neg hq, if_neg (fun e => hq ((ok_mem h).2 e))]
theorem ok_count (o : Int) : ((cnt C.f (phs C o) : Nat) : Int) = countN C o := by
  have _hh := h
  rw [countN_len, cnt_all (fun p hp => (phs_mem hp).2.2)]
theorem ok_until {o now : Int} (hc : countN C o ≠ 0) : ∃ g : Int, (0 ≤ g ∧ g < C.f) ∧ untilN C o now = tadd now g ∧ atW ((phase C now + g) % C.f) C.ws = some o ∧ ∀ j, 0 ≤ j → j < g → atW ((phase C now + j) % C.f) C.ws ≠ some o := by
  have hf := (ok_hd h).2.1
  obtain ⟨hp, hb0, hb1⟩ := ok_phase h now
  have hne : phs C o ≠ [] := fun e => hc (by rw [countN_len, e]; rfl)
  have hgap : ∀ p, gap (cut now) C.f p = if p - phase C now < 0 then p - phase C now + C.f else p - phase C now := fun p => by unfold gap; rw [hp]
  have hmod : ∀ j, 0 ≤ j → j < C.f → (phase C now + j) % C.f = if phase C now + j < C.f then phase C now + j else phase C now + j - C.f := fun j j0 j1 => by
    split
    · exact Int.emod_eq_of_lt (by omega) (by omega)
    · exact emod_once (by omega) (by omega)
  unfold untilN
  cases hfi : (phs C o).find? (fun q => decide (phase C now ≤ q)) with
  | some p =>
    obtain ⟨hm, hle, hmin⟩ := find_min (ok_rise h o) hfi
    have hpb := (phs_mem hm).2
    have hg : gap (cut now) C.f p = p - phase C now := by rw [hgap, if_neg (by omega)]
    refine ⟨p - phase C now, by omega, by rw [← hg]; rfl, ?_, fun j j0 j1 hj => ?_⟩
    · rw [hmod _ (by omega) (by omega), if_pos (by omega), show phase C now + (p - phase C now) = p by omega]
      exact (ok_mem h).1 hm
    · rw [hmod j j0 (by omega), if_pos (by omega)] at hj
      have := hmin _ ((ok_mem h).2 hj) (by omega)
      omega
  | none =>
    have hall : ∀ q ∈ phs C o, q < phase C now := fun q hq => by
      have := List.find?_eq_none.1 hfi q hq
      simpa using this
    obtain ⟨hm, hmin⟩ := fst_min (ok_rise h o) hne
    have hpb := (phs_mem hm).2
    have hlt := hall _ hm
    have hg : gap (cut now) C.f (fstO (phs C o)) = fstO (phs C o) - phase C now + C.f := by rw [hgap, if_pos (by omega)]
    refine ⟨fstO (phs C o) - phase C now + C.f, by omega, ?_, ?_, fun j j0 j1 hj => ?_⟩
    · show (if _ then _ else _) = _
      rw [if_neg (by omega), ← hg]
      rfl
    · rw [hmod _ (by omega) (by omega), if_neg (by omega), show phase C now + (fstO (phs C o) - phase C now + C.f) - C.f = fstO (phs C o) by omega]
      exact (ok_mem h).1 hm
    · rw [hmod j j0 (by omega)] at hj
      split at hj
      · have := hall _ ((ok_mem h).2 hj)
        omega
      · have := hmin _ ((ok_mem h).2 hj)
        omega
theorem ok_nth {o m : Int} (hc : countN C o ≠ 0) : ∃ p : Int, (0 ≤ p ∧ p < C.f) ∧ nthN C o m = tadd (tmul (cut m / countN C o) C.f) p ∧ atW p C.ws = some o ∧ ((cnt p (phs C o) : Nat) : Int) = cut m % countN C o ∧ ∀ j, j ≠ p → atW j C.ws = some o → ((cnt j (phs C o) : Nat) : Int) ≠ cut m % countN C o := by
  have hcl := countN_len C o
  have hb0 := Int.emod_nonneg (cut m) (show countN C o ≠ 0 by omega)
  have hb1 := Int.emod_lt_of_pos (cut m) (show 0 < countN C o by omega)
  have hi : (cut m % countN C o).toNat < (phs C o).length := by omega
  have hm := List.getElem_mem hi
  have hat := cnt_at (ok_rise h o) hi
  refine ⟨(phs C o)[(cut m % countN C o).toNat], (phs_mem hm).2, ?_, (ok_mem h).1 hm, by rw [hat]; omega, fun j hj hja e => hj ?_⟩
  · unfold nthN
    rw [if_neg hc, List.getElem?_eq_getElem hi]
  · have hjm := cnt_get (ok_rise h o) ((ok_mem h).2 hja)
    rw [show cnt j (phs C o) = (cut m % countN C o).toNat by omega, List.getElem?_eq_getElem hi] at hjm
    exact (Option.some.inj hjm).symm
end
set_option maxHeartbeats 16000000 in
set_option maxRecDepth 100000 in
theorem rat_any {C : Cfg} {A2 A3 A4 : Option Addr} {c2 c3 c4 : Nat} {w : World} (hX : CX w C A2 c2 A3 c3 A4 c4) (lk : C.ks.length ≤ 1000) (la : C.ac.length ≤ 1000) (lw : C.ws.length ≤ 1000) (hk : okB C = true) (ph : Int) :
    Calls Tryd.prog 39 #[.agg #[.int .i64 C.p, .int .i64 C.f, .slice A2 C.ws.length c2, .slice A3 C.ks.length c3, .slice A4 C.ac.length c4], .int .i64 ph] w fun e w' => e = .returned (.tuple #[.int .i64 ((atW ph C.ws).getD 0), .bool (atW ph C.ws).isSome]) ∧ Below w.heap.size w w' := by
  have HX := Aside0.mk hX.w
  have HWN := Aside0.mk (ok_win hk)
  have hf := (ok_hd hk).2.1
  clear hX hk lk la
  have H1 : Aside0 ((w.alloc (.cells #[.int .i64 C.p, .int .i64 C.f, .slice A2 C.ws.length c2, .slice A3 C.ks.length c3, .slice A4 C.ac.length c4] 26)).heap[w.heap.size]? = some (.cells #[.int .i64 C.p, .int .i64 C.f, .slice A2 C.ws.length c2, .slice A3 C.ks.length c3, .slice A4 C.ac.length c4] 26 (0, 0)) ∧ Below w.heap.size w (w.alloc (.cells #[.int .i64 C.p, .int .i64 C.f, .slice A2 C.ws.length c2, .slice A3 C.ks.length c3, .slice A4 C.ac.length c4] 26))) := ⟨⟨blk_new _ _, below_alloc (Below.refl _ _) _⟩⟩
  obtain ⟨res, hres⟩ : ∃ r, atW ph C.ws = r := ⟨_, rfl⟩
  rw [hres]
  have HR := Aside0.mk hres
  clear hres
  go_enter Tryd.func39, Tryd.ntmps39
  go_wp2
  go_loopw [6] (fun v6 wr => ∃ j : Nat, j ≤ C.ws.length ∧ v6 = .int .i64 j ∧ Aside0 (wr.heap[w.heap.size]? = some (.cells #[.int .i64 C.p, .int .i64 C.f, .slice A2 C.ws.length c2, .slice A3 C.ks.length c3, .slice A4 C.ac.length c4] 26 (0, 0)) ∧ Below w.heap.size w wr) ∧ Aside0 (atW ph (C.ws.drop j) = res)) (fun v6 _ => C.ws.length - (intOf v6).toNat)
  case atStart => exact ⟨0, by omega, rfl, H1, HR⟩
  case round =>
    clear H1 HR
    obtain ⟨j, hj, rfl, HI, HF⟩ := hrel
    have b2 := (blk_cell HI.out.1 2).trans (show _ = some (.slice A2 C.ws.length c2) from rfl)
    by_cases hlt : j < C.ws.length
    · have hst := atW_step ph C.ws j hlt
      rw [HF.out] at hst
      have d1 : decide ((j : Int) < (C.ws.length : Int)) = true := decide_eq_true (by omega)
      have d1n : decide (j < C.ws.length) = true := decide_eq_true hlt
      have hcs := at_T41 (Kd.C_below HX.out HI.out.2) (j : Int) (by omega) (by omega)
      rw [show rd_T41 C.ws (j : Int) = C.ws[j] by simp [rd_T41, hlt], Int.toNat_natCast] at hcs
      have hx := HWN.out _ (List.getElem_mem hlt)
      generalize C.ws[j] = x at hcs hst hx
      obtain ⟨x0, x1, x2⟩ := x
      obtain ⟨ad, rfl, e0, e1, e2⟩ := hcs
      simp only [] at hx e0 e1 e2 hst
      obtain ⟨hx0, hx1, hx2⟩ := hx
      have hj0 : 0 ≤ (j : Int) := by omega
      have hj1 : (j : Int) < C.ws.length := by omega
      have hsi : IntKind.i64.wrap (x1 + x2) = x1 + x2 := IntWalk.i64_in _ (by omega)
      have hsw : wrap64 (x1 + x2) = x1 + x2 := w64_in (by omega) (by omega)
      have HST := Aside0.mk hst
      clear hst
      by_cases hc1 : x1 ≤ ph
      · have q1 : decide (x1 ≤ ph) = true := decide_eq_true hc1
        by_cases hc2 : ph < x1 + x2
        · have q2 : decide (ph < x1 + x2) = true := decide_eq_true hc2
          have HS2 := Aside0.mk (HST.out.trans (if_pos ⟨hc1, hc2⟩))
          clear hc1 hc2
          go_wp2
          refine bodyPost_ret (results_tmp2 rfl _ _ _) rfl ?_
          rw [HS2.out]
          exact ⟨rfl, below_alloc HI.out.2 _⟩
        · have q2 : decide (ph < x1 + x2) = false := decide_eq_false hc2
          have HS2 := Aside0.mk (HST.out.trans (if_neg (fun h => hc2 h.2)))
          clear hc1 hc2
          go_wp2
          go_roundw
          case rel => exact ⟨j + 1, by omega, by go_num, ⟨blk_alloc HI.out.1 _, below_alloc HI.out.2 _⟩, ⟨HS2.out.symm⟩⟩
          case measure => simp [intOf]; omega
      · have q1 : decide (x1 ≤ ph) = false := decide_eq_false hc1
        have HS2 := Aside0.mk (HST.out.trans (if_neg (fun h => hc1 h.1)))
        clear hc1
        go_wp2
        go_roundw
        case rel => exact ⟨j + 1, by omega, by go_num, ⟨blk_alloc HI.out.1 _, below_alloc HI.out.2 _⟩, ⟨HS2.out.symm⟩⟩
        case measure => simp [intOf]; omega
    · have d1 : decide ((j : Int) < (C.ws.length : Int)) = false := decide_eq_false (by omega)
      have d1n : decide (j < C.ws.length) = false := decide_eq_false hlt
      obtain rfl : j = C.ws.length := by omega
      rw [List.drop_length] at HF
      have HR2 : Aside0 (res = none) := ⟨HF.out.symm⟩
      go_wp2
      refine bodyPost_ret (results_tmp2 rfl _ _ _) rfl ?_
      rw [HR2.out]
      exact ⟨rfl, HI.out.2⟩
set_option maxHeartbeats 16000000 in
set_option maxRecDepth 100000 in
theorem rahead_any {C : Cfg} {A2 A3 A4 : Option Addr} {c2 c3 c4 : Nat} {w : World} (hX : CX w C A2 c2 A3 c3 A4 c4) (lk : C.ks.length ≤ 1000) (la : C.ac.length ≤ 1000) (lw : C.ws.length ≤ 1000) (hk : okB C = true) (o ph : Int) (p0 : 0 ≤ ph) (p1 : ph ≤ 64) :
    Calls Tryd.prog 47 #[.agg #[.int .i64 C.p, .int .i64 C.f, .slice A2 C.ws.length c2, .slice A3 C.ks.length c3, .slice A4 C.ac.length c4], .int .i64 o, .int .i64 ph] w fun e w' => e = .returned (.int .i64 ((cnt ph (phs C o) : Nat) : Int)) ∧ Below w.heap.size w w' := by
  have CT : Aside0 (∀ (t : Int) (W : World), Below w.heap.size w W → Calls Tryd.prog 39 #[.agg #[.int .i64 C.p, .int .i64 C.f, .slice A2 C.ws.length c2, .slice A3 C.ks.length c3, .slice A4 C.ac.length c4], .int .i64 t] W fun e w' => e = .returned (.tuple #[.int .i64 ((atW t C.ws).getD 0), .bool (atW t C.ws).isSome]) ∧ Below W.heap.size W w') := ⟨fun t W hb => rat_any (hX.below hb) lk la lw hk t⟩
  have HU := Aside0.mk (ok_up hk o)
  have HZ := Aside0.mk (ok_zero hk o)
  clear hX hk lk la lw
  have H1 : Aside0 ((w.alloc (.cells #[.int .i64 C.p, .int .i64 C.f, .slice A2 C.ws.length c2, .slice A3 C.ks.length c3, .slice A4 C.ac.length c4] 26)).heap[w.heap.size]? = some (.cells #[.int .i64 C.p, .int .i64 C.f, .slice A2 C.ws.length c2, .slice A3 C.ks.length c3, .slice A4 C.ac.length c4] 26 (0, 0)) ∧ Below w.heap.size w (w.alloc (.cells #[.int .i64 C.p, .int .i64 C.f, .slice A2 C.ws.length c2, .slice A3 C.ks.length c3, .slice A4 C.ac.length c4] 26))) := ⟨⟨blk_new _ _, below_alloc (Below.refl _ _) _⟩⟩
  go_enter Tryd.func47, Tryd.ntmps47
  go_wp2
  go_loopw [7, 8] (fun v7 v8 wr => ∃ (i : Int) (n : Nat), v8 = .int .i64 i ∧ 0 ≤ i ∧ i ≤ ph ∧ v7 = .int .i64 n ∧ (n : Int) ≤ i ∧ Aside0 (cnt i (phs C o) = n) ∧ Aside0 (wr.heap[w.heap.size]? = some (.cells #[.int .i64 C.p, .int .i64 C.f, .slice A2 C.ws.length c2, .slice A3 C.ks.length c3, .slice A4 C.ac.length c4] 26 (0, 0)) ∧ Below w.heap.size w wr)) (fun _ v8 _ => (ph - intOf v8).toNat)
  case atStart => exact ⟨0, 0, rfl, by omega, by omega, rfl, by omega, HZ, H1⟩
  case round =>
    clear H1 HZ
    rename_i gv7 gv8
    obtain ⟨i, n, rfl, hi0, hi1, rfl, hn, HN, HI⟩ := hrel
    have b0 := (blk_cell HI.out.1 0).trans (show _ = some (.int .i64 C.p) from rfl)
    have b1 := (blk_cell HI.out.1 1).trans (show _ = some (.int .i64 C.f) from rfl)
    have b2 := (blk_cell HI.out.1 2).trans (show _ = some (.slice A2 C.ws.length c2) from rfl)
    have b3 := (blk_cell HI.out.1 3).trans (show _ = some (.slice A3 C.ks.length c3) from rfl)
    have b4 := (blk_cell HI.out.1 4).trans (show _ = some (.slice A4 C.ac.length c4) from rfl)
    by_cases hlt : i < ph
    · have d1 : decide (i < ph) = true := decide_eq_true hlt
      have hup := HU.out i
      rw [HN.out] at hup
      have CTi := Aside0.mk (CT.out i)
      have hi2 : wrap64 (i + 1) = i + 1 := w64_in (by omega) (by omega)
      have hn2 : wrap64 ((n : Int) + 1) = (n : Int) + 1 := w64_in (by omega) (by omega)
      have hwo : atW i C.ws = some o ∨ atW i C.ws = none ∨ ∃ r, atW i C.ws = some r ∧ decide (r = o) = false ∧ (r == o) = false ∧ r ≠ o := by
        cases h : atW i C.ws with
        | none => exact Or.inr (Or.inl rfl)
        | some r =>
          by_cases hr : r = o
          · exact Or.inl (by rw [hr])
          · exact Or.inr (Or.inr ⟨r, rfl, decide_eq_false hr, beq_eq_false_iff_ne.mpr hr, hr⟩)
      rcases hwo with hw | hw | ⟨r, hw, hr1, hr2, hr3⟩
      ·
        rw [hw] at CTi
        have hop : (some o).getD 0 = o := rfl
        have hos : (some o).isSome = true := rfl
        rw [hop, hos] at CTi
        clear hop hos
        rw [hw, if_pos rfl] at hup
        have HE := Aside0.mk hup
        clear hup hw
        go_wp2_with (first | (go_at_call 39; (with_reducible refine (CTi.out _ HI.out.2).mono ?_); rintro e w8 ⟨rfl, hb⟩; have H8 := Aside0.mk (And.intro (blk_below HI.out.1 hb) (below_step HI.out.2 hb)); clear hb b0 b1 b2 b3 b4))
        go_roundw
        case rel => exact ⟨i + 1, n + 1, by first | rfl | rw [hi2] | go_num, by omega, by omega, by first | rfl | (rw [hn2]; rfl) | go_num, by omega, HE, H8⟩
        case measure => simp [intOf]; omega
      ·
        rw [hw] at CTi
        have hos : (none : Option Int).isSome = false := rfl
        rw [hos] at CTi
        clear hos
        generalize (none : Option Int).getD 0 = a at CTi
        have hne : (none : Option Int) ≠ some o := fun e => by cases e
        rw [hw, if_neg hne, Nat.add_zero] at hup
        have HE := Aside0.mk hup
        clear hup hw hne
        go_wp2_with (first | (go_at_call 39; (with_reducible refine (CTi.out _ HI.out.2).mono ?_); rintro e w8 ⟨rfl, hb⟩; have H8 := Aside0.mk (And.intro (blk_below HI.out.1 hb) (below_step HI.out.2 hb)); clear hb b0 b1 b2 b3 b4))
        go_roundw
        case rel => exact ⟨i + 1, n, by first | rfl | rw [hi2] | go_num, by omega, by omega, rfl, by omega, HE, H8⟩
        case measure => simp [intOf]; omega
      ·
        rw [hw] at CTi
        have hop : (some r).getD 0 = r := rfl
        have hos : (some r).isSome = true := rfl
        rw [hop, hos] at CTi
        clear hop hos
        have hne : some r ≠ some o := fun e => hr3 (Option.some.inj e)
        clear hr3
        rw [hw, if_neg hne, Nat.add_zero] at hup
        have HE := Aside0.mk hup
        clear hup hw hne
        go_wp2_with (first | (go_at_call 39; (with_reducible refine (CTi.out _ HI.out.2).mono ?_); rintro e w8 ⟨rfl, hb⟩; have H8 := Aside0.mk (And.intro (blk_below HI.out.1 hb) (below_step HI.out.2 hb)); clear hb b0 b1 b2 b3 b4))
        go_roundw
        case rel => exact ⟨i + 1, n, by first | rfl | rw [hi2] | go_num, by omega, by omega, rfl, by omega, HE, H8⟩
        case measure => simp [intOf]; omega
    · have d1 : decide (i < ph) = false := decide_eq_false hlt
      obtain rfl : i = ph := by omega
      go_wp2
      go_ret
      exact ⟨by rw [HN.out]; rfl, HI.out.2⟩
set_option maxHeartbeats 16000000 in
set_option maxRecDepth 100000 in
theorem rwhose_any {C : Cfg} {A2 A3 A4 : Option Addr} {c2 c3 c4 : Nat} {w : World} (hX : CX w C A2 c2 A3 c3 A4 c4) (lk : C.ks.length ≤ 1000) (la : C.ac.length ≤ 1000) (lw : C.ws.length ≤ 1000) (now : Int) :
    Calls Tryd.prog 20 #[.agg #[.int .i64 C.p, .int .i64 C.f, .slice A2 C.ws.length c2, .slice A3 C.ks.length c3, .slice A4 C.ac.length c4], .int .i64 now] w fun e w' => e = .returned (.tuple #[.int .i64 ((whoN C now).getD 0), .bool (whoN C now).isSome]) ∧ Below w.heap.size w w' := by
  have CM : Aside0 (∀ W : World, Below w.heap.size w W → Calls Tryd.prog 36 #[.agg #[.int .i64 C.p, .int .i64 C.f, .slice A2 C.ws.length c2, .slice A3 C.ks.length c3, .slice A4 C.ac.length c4]] W fun e w' => e = .returned (.bool (okB C)) ∧ Below W.heap.size W w') := ⟨fun W hb => rmay_any (hX.below hb) lw lk la⟩
  obtain ⟨ok, hok⟩ : ∃ ok, okB C = ok := ⟨_, rfl⟩
  rw [hok] at CM
  cases ok
  ·
    rw [no_who hok now]
    clear hok hX lk la lw
    have H1 : Aside0 ((w.alloc (.cells #[.int .i64 C.p, .int .i64 C.f, .slice A2 C.ws.length c2, .slice A3 C.ks.length c3, .slice A4 C.ac.length c4] 26)).heap[w.heap.size]? = some (.cells #[.int .i64 C.p, .int .i64 C.f, .slice A2 C.ws.length c2, .slice A3 C.ks.length c3, .slice A4 C.ac.length c4] 26 (0, 0)) ∧ Below w.heap.size w (w.alloc (.cells #[.int .i64 C.p, .int .i64 C.f, .slice A2 C.ws.length c2, .slice A3 C.ks.length c3, .slice A4 C.ac.length c4] 26))) := ⟨⟨blk_new _ _, below_alloc (Below.refl _ _) _⟩⟩
    have b0 := (blk_cell H1.out.1 0).trans (show _ = some (.int .i64 C.p) from rfl)
    have b1 := (blk_cell H1.out.1 1).trans (show _ = some (.int .i64 C.f) from rfl)
    have b2 := (blk_cell H1.out.1 2).trans (show _ = some (.slice A2 C.ws.length c2) from rfl)
    have b3 := (blk_cell H1.out.1 3).trans (show _ = some (.slice A3 C.ks.length c3) from rfl)
    have b4 := (blk_cell H1.out.1 4).trans (show _ = some (.slice A4 C.ac.length c4) from rfl)
    go_enter Tryd.func20, Tryd.ntmps20
    go_wp2_with (first | (go_at_call 36; (with_reducible refine (CM.out _ H1.out.2).mono ?_); rintro e w2 ⟨rfl, hb⟩; have H2 := Aside0.mk (And.intro (blk_below H1.out.1 hb) (below_step H1.out.2 hb)); clear hb b0 b1 b2 b3 b4))
    refine bodyPost_ret (results_tmp2 rfl _ _ _) rfl ?_
    exact ⟨rfl, H2.out.2⟩
  ·
    have hwn : whoN C now = atW (phase C now) C.ws := by unfold whoN; rw [if_pos hok]
    rw [hwn]
    clear hwn
    have CT : Aside0 (∀ W : World, Below w.heap.size w W → Calls Tryd.prog 39 #[.agg #[.int .i64 C.p, .int .i64 C.f, .slice A2 C.ws.length c2, .slice A3 C.ks.length c3, .slice A4 C.ac.length c4], .int .i64 (phase C now)] W fun e w' => e = .returned (.tuple #[.int .i64 ((atW (phase C now) C.ws).getD 0), .bool (atW (phase C now) C.ws).isSome]) ∧ Below W.heap.size W w') := ⟨fun W hb => rat_any (hX.below hb) lk la lw hok (phase C now)⟩
    have PX : Aside0 (∀ W : World, Calls Tryd.prog 40 #[.int .i64 now, .int .i64 C.f] W fun e w' => e = .returned (.int .i64 (phase C now)) ∧ W = w') := ⟨fun W => rphase_any now C.f W⟩
    generalize phase C now = ph at CT PX ⊢
    generalize (atW ph C.ws).getD 0 = a1 at CT ⊢
    generalize (atW ph C.ws).isSome = a2 at CT ⊢
    clear hok hX lk la lw
    have H1 : Aside0 ((w.alloc (.cells #[.int .i64 C.p, .int .i64 C.f, .slice A2 C.ws.length c2, .slice A3 C.ks.length c3, .slice A4 C.ac.length c4] 26)).heap[w.heap.size]? = some (.cells #[.int .i64 C.p, .int .i64 C.f, .slice A2 C.ws.length c2, .slice A3 C.ks.length c3, .slice A4 C.ac.length c4] 26 (0, 0)) ∧ Below w.heap.size w (w.alloc (.cells #[.int .i64 C.p, .int .i64 C.f, .slice A2 C.ws.length c2, .slice A3 C.ks.length c3, .slice A4 C.ac.length c4] 26))) := ⟨⟨blk_new _ _, below_alloc (Below.refl _ _) _⟩⟩
    have b0 := (blk_cell H1.out.1 0).trans (show _ = some (.int .i64 C.p) from rfl)
    have b1 := (blk_cell H1.out.1 1).trans (show _ = some (.int .i64 C.f) from rfl)
    have b2 := (blk_cell H1.out.1 2).trans (show _ = some (.slice A2 C.ws.length c2) from rfl)
    have b3 := (blk_cell H1.out.1 3).trans (show _ = some (.slice A3 C.ks.length c3) from rfl)
    have b4 := (blk_cell H1.out.1 4).trans (show _ = some (.slice A4 C.ac.length c4) from rfl)
    go_enter Tryd.func20, Tryd.ntmps20
    go_upto_region 4 with (first | (go_at_call 36; (with_reducible refine (CM.out _ H1.out.2).mono ?_); rintro e w2 ⟨rfl, hb⟩; have H2 := Aside0.mk (And.intro (blk_below H1.out.1 hb) (below_step H1.out.2 hb)); clear hb b0 b1 b2 b3 b4; have b0 := (blk_cell H2.out.1 0).trans (show _ = some (.int .i64 C.p) from rfl); have b1 := (blk_cell H2.out.1 1).trans (show _ = some (.int .i64 C.f) from rfl); have b2 := (blk_cell H2.out.1 2).trans (show _ = some (.slice A2 C.ws.length c2) from rfl); have b3 := (blk_cell H2.out.1 3).trans (show _ = some (.slice A3 C.ks.length c3) from rfl); have b4 := (blk_cell H2.out.1 4).trans (show _ = some (.slice A4 C.ac.length c4) from rfl)))
    have TS := Aside0.mk (fun (W : World) (hb : Below w2.heap.size w2 W) => And.intro (cell_b b0 hb) (And.intro (cell_b b1 hb) (And.intro (cell_b b2 hb) (And.intro (cell_b b3 hb) (cell_b b4 hb)))))
    have HB := Aside0.mk (below_drew (Below.refl w2.heap.size w2))
    refine start_ (n := 10) (S := (fun w' => w'.cell? ⟨w.heap.size, 0, none⟩ = some (.int .i64 C.p) ∧ w'.cell? ⟨w.heap.size, 1, none⟩ = some (.int .i64 C.f) ∧ w'.cell? ⟨w.heap.size, 2, none⟩ = some (.slice A2 C.ws.length c2) ∧ w'.cell? ⟨w.heap.size, 3, none⟩ = some (.slice A3 C.ks.length c3) ∧ w'.cell? ⟨w.heap.size, 4, none⟩ = some (.slice A4 C.ac.length c4))) (ds := []) #[false, false, false, false, false, false, false, false, false, false] (by kernel_rfl) rfl rfl (TS.out _ (below_drew (Below.refl _ _))) (fun hHeld => ?_)
    refine take_ (i := 0) (N := some 11) (v := ?_) (a' := ?_) #[true, false, false, false, false, false, false, false, false, false] rfl rfl (by kernel_rfl) (fun _ _ _ h => h) (Or.inl ⟨by rfl, ?_⟩) hHeld ?_ ?_
    rotate_left
    · intro w' hSw
      obtain ⟨s0, s1, s2, s3, s4⟩ := hSw
      go_simp
      with_reducible rfl
    rotate_left
    · simp only [Act.put, List.setIfInBounds_toArray, List.set_cons_zero, List.set_cons_succ, i64_w, i32_w]
      rfl
    refine pure_ (i := 1) (N := some 12) (v := ?_) (a' := ?_) #[true, true, false, false, false, false, false, false, false, false] rfl rfl (by kernel_rfl) (fun _ _ _ h => h) (Or.inl ⟨by rfl, ?_⟩) ?_ ?_
    rotate_left
    · intro w'
      go_simp
      with_reducible rfl
    rotate_left
    · simp only [Act.put, List.setIfInBounds_toArray, List.set_cons_zero, List.set_cons_succ, i64_w, i32_w]
      rfl
    refine pure_ (i := 2) (N := some 13) (v := ?_) (a' := ?_) #[true, true, true, false, false, false, false, false, false, false] rfl rfl (by kernel_rfl) (fun _ _ _ h => h) (Or.inl ⟨by rfl, ?_⟩) ?_ ?_
    rotate_left
    · intro w'
      go_simp
      with_reducible rfl
    rotate_left
    · simp only [Act.put, List.setIfInBounds_toArray, List.set_cons_zero, List.set_cons_succ, i64_w, i32_w]
      rfl
    refine take_ (i := 3) (N := some 14) (v := ?_) (a' := ?_) #[true, true, true, true, false, false, false, false, false, false] rfl rfl (by kernel_rfl) (fun _ _ _ h => h) (Or.inl ⟨by rfl, ?_⟩) hHeld ?_ ?_
    rotate_left
    · intro w' hSw
      obtain ⟨s0, s1, s2, s3, s4⟩ := hSw
      go_simp
      with_reducible rfl
    rotate_left
    · simp only [Act.put, List.setIfInBounds_toArray, List.set_cons_zero, List.set_cons_succ, i64_w, i32_w]
      rfl
    clear hHeld
    refine one_ (i := 4) (N := some 15) #[true, true, true, true, true, false, false, false, false, false] rfl rfl (by kernel_rfl) (by decide) (fun K hK => ?_)
    refine goes_ Tryd.func40 (by kernel_rfl) rfl #[.int .i64 now, .int .i64 C.f] (by rfl) rfl rfl (by (try simp only [List.map_toArray, List.map_cons, List.map_nil]); first | done | rfl | (simp only [List.length_drop, List.length_take]; rfl)) ?_
    (with_reducible refine (PX.out _).mono ?_)
    rintro e w11 ⟨rfl, rfl⟩
    refine ⟨_, rfl, ?_⟩
    refine hK.out _ _ (TS.out _ HB.out) (fun hHeld => ?_)
    clear hK K
    refine norm_ (a' := ?_) ?_ ?_
    rotate_left
    · show Act.put _ (some 15) _ = _
      simp only [Act.put, List.setIfInBounds_toArray, List.set_cons_zero, List.set_cons_succ, i64_w, i32_w]
      rfl
    clear hHeld
    refine one_ (i := 5) (N := some 16) #[true, true, true, true, true, true, false, false, false, false] rfl rfl (by kernel_rfl) (by decide) (fun K hK => ?_)
    refine goes_ Tryd.func39 (by kernel_rfl) rfl #[.agg #[.int .i64 C.p, .int .i64 C.f, .slice A2 C.ws.length c2, .slice A3 C.ks.length c3, .slice A4 C.ac.length c4], .int .i64 ph] (by rfl) rfl rfl (by (try simp only [List.map_toArray, List.map_cons, List.map_nil]); first | done | rfl | (simp only [List.length_drop, List.length_take]; rfl)) ?_
    (with_reducible refine (CT.out _ (below_step H2.out.2 HB.out)).mono ?_)
    rintro e w11 ⟨rfl, hb⟩
    refine ⟨_, rfl, ?_⟩
    have HBn := Aside0.mk (below_step HB.out hb)
    clear HB
    have HB := HBn
    clear HBn
    clear hb
    refine hK.out _ _ (TS.out _ HB.out) (fun hHeld => ?_)
    clear hK K
    refine norm_ (a' := ?_) ?_ ?_
    rotate_left
    · show Act.put _ (some 16) _ = _
      simp only [Act.put, List.setIfInBounds_toArray, List.set_cons_zero, List.set_cons_succ, i64_w, i32_w]
      rfl
    refine pure_ (i := 6) (N := some 17) (v := ?_) (a' := ?_) #[true, true, true, true, true, true, true, false, false, false] rfl rfl (by kernel_rfl) (fun _ _ _ h => h) (Or.inl ⟨by rfl, ?_⟩) ?_ ?_
    rotate_left
    · intro w'
      go_simp
      with_reducible rfl
    rotate_left
    · simp only [Act.put, List.setIfInBounds_toArray, List.set_cons_zero, List.set_cons_succ, i64_w, i32_w]
      rfl
    refine pure_ (i := 7) (N := some 18) (v := ?_) (a' := ?_) #[true, true, true, true, true, true, true, true, false, false] rfl rfl (by kernel_rfl) (fun _ _ _ h => h) (Or.inl ⟨by rfl, ?_⟩) ?_ ?_
    rotate_left
    · intro w'
      go_simp
      with_reducible rfl
    rotate_left
    · simp only [Act.put, List.setIfInBounds_toArray, List.set_cons_zero, List.set_cons_succ, i64_w, i32_w]
      rfl
    refine pure_ (i := 8) (N := some 4) (v := ?_) (a' := ?_) #[true, true, true, true, true, true, true, true, true, false] rfl rfl (by kernel_rfl) (fun _ _ _ h => h) (Or.inl ⟨by rfl, ?_⟩) ?_ ?_
    rotate_left
    · intro w'
      go_simp
      with_reducible rfl
    rotate_left
    · simp only [Act.put, List.setIfInBounds_toArray, List.set_cons_zero, List.set_cons_succ, i64_w, i32_w]
      rfl
    refine pure_ (i := 9) (N := some 5) (v := ?_) (a' := ?_) #[true, true, true, true, true, true, true, true, true, true] rfl rfl (by kernel_rfl) (fun _ _ _ h => h) (Or.inl ⟨by rfl, ?_⟩) ?_ ?_
    rotate_left
    · intro w'
      go_simp
      with_reducible rfl
    rotate_left
    · simp only [Act.put, List.setIfInBounds_toArray, List.set_cons_zero, List.set_cons_succ, i64_w, i32_w]
      rfl
    refine done_ (by kernel_rfl) ?_
    go_wp2
    refine bodyPost_ret (results_tmp2 rfl _ _ _) rfl ?_
    exact ⟨rfl, below_step H2.out.2 HB.out⟩
set_option maxHeartbeats 16000000 in
set_option maxRecDepth 100000 in
theorem rcount_any {C : Cfg} {A2 A3 A4 : Option Addr} {c2 c3 c4 : Nat} {w : World} (hX : CX w C A2 c2 A3 c3 A4 c4) (lk : C.ks.length ≤ 1000) (la : C.ac.length ≤ 1000) (lw : C.ws.length ≤ 1000) (o : Int) :
    Calls Tryd.prog 31 #[.agg #[.int .i64 C.p, .int .i64 C.f, .slice A2 C.ws.length c2, .slice A3 C.ks.length c3, .slice A4 C.ac.length c4], .int .i64 o] w fun e w' => e = .returned (.int .i64 (countN C o)) ∧ Below w.heap.size w w' := by
  have CM : Aside0 (∀ W : World, Below w.heap.size w W → Calls Tryd.prog 36 #[.agg #[.int .i64 C.p, .int .i64 C.f, .slice A2 C.ws.length c2, .slice A3 C.ks.length c3, .slice A4 C.ac.length c4]] W fun e w' => e = .returned (.bool (okB C)) ∧ Below W.heap.size W w') := ⟨fun W hb => rmay_any (hX.below hb) lw lk la⟩
  obtain ⟨ok, hok⟩ : ∃ ok, okB C = ok := ⟨_, rfl⟩
  rw [hok] at CM
  cases ok
  ·
    rw [no_count hok o]
    clear hok hX lk la lw
    have H1 : Aside0 ((w.alloc (.cells #[.int .i64 C.p, .int .i64 C.f, .slice A2 C.ws.length c2, .slice A3 C.ks.length c3, .slice A4 C.ac.length c4] 26)).heap[w.heap.size]? = some (.cells #[.int .i64 C.p, .int .i64 C.f, .slice A2 C.ws.length c2, .slice A3 C.ks.length c3, .slice A4 C.ac.length c4] 26 (0, 0)) ∧ Below w.heap.size w (w.alloc (.cells #[.int .i64 C.p, .int .i64 C.f, .slice A2 C.ws.length c2, .slice A3 C.ks.length c3, .slice A4 C.ac.length c4] 26))) := ⟨⟨blk_new _ _, below_alloc (Below.refl _ _) _⟩⟩
    have b0 := (blk_cell H1.out.1 0).trans (show _ = some (.int .i64 C.p) from rfl)
    have b1 := (blk_cell H1.out.1 1).trans (show _ = some (.int .i64 C.f) from rfl)
    have b2 := (blk_cell H1.out.1 2).trans (show _ = some (.slice A2 C.ws.length c2) from rfl)
    have b3 := (blk_cell H1.out.1 3).trans (show _ = some (.slice A3 C.ks.length c3) from rfl)
    have b4 := (blk_cell H1.out.1 4).trans (show _ = some (.slice A4 C.ac.length c4) from rfl)
    go_enter Tryd.func31, Tryd.ntmps31
    go_wp2_with (first | (go_at_call 36; (with_reducible refine (CM.out _ H1.out.2).mono ?_); rintro e w2 ⟨rfl, hb⟩; have H2 := Aside0.mk (And.intro (blk_below H1.out.1 hb) (below_step H1.out.2 hb)); clear hb b0 b1 b2 b3 b4))
    go_ret
    exact ⟨rfl, H2.out.2⟩
  ·
    have hf := (ok_hd hok).2.1
    have hcc := ok_count hok o
    have CH : Aside0 (∀ W : World, Below w.heap.size w W → Calls Tryd.prog 47 #[.agg #[.int .i64 C.p, .int .i64 C.f, .slice A2 C.ws.length c2, .slice A3 C.ks.length c3, .slice A4 C.ac.length c4], .int .i64 o, .int .i64 C.f] W fun e w' => e = .returned (.int .i64 (countN C o)) ∧ Below W.heap.size W w') := ⟨fun W hb => by rw [← hcc]; exact rahead_any (hX.below hb) lk la lw hok o C.f (by omega) hf.2⟩
    clear hf hcc hok hX lk la lw
    have H1 : Aside0 ((w.alloc (.cells #[.int .i64 C.p, .int .i64 C.f, .slice A2 C.ws.length c2, .slice A3 C.ks.length c3, .slice A4 C.ac.length c4] 26)).heap[w.heap.size]? = some (.cells #[.int .i64 C.p, .int .i64 C.f, .slice A2 C.ws.length c2, .slice A3 C.ks.length c3, .slice A4 C.ac.length c4] 26 (0, 0)) ∧ Below w.heap.size w (w.alloc (.cells #[.int .i64 C.p, .int .i64 C.f, .slice A2 C.ws.length c2, .slice A3 C.ks.length c3, .slice A4 C.ac.length c4] 26))) := ⟨⟨blk_new _ _, below_alloc (Below.refl _ _) _⟩⟩
    have b0 := (blk_cell H1.out.1 0).trans (show _ = some (.int .i64 C.p) from rfl)
    have b1 := (blk_cell H1.out.1 1).trans (show _ = some (.int .i64 C.f) from rfl)
    have b2 := (blk_cell H1.out.1 2).trans (show _ = some (.slice A2 C.ws.length c2) from rfl)
    have b3 := (blk_cell H1.out.1 3).trans (show _ = some (.slice A3 C.ks.length c3) from rfl)
    have b4 := (blk_cell H1.out.1 4).trans (show _ = some (.slice A4 C.ac.length c4) from rfl)
    go_enter Tryd.func31, Tryd.ntmps31
    go_wp2_with (first | (go_at_call 36; (with_reducible refine (CM.out _ H1.out.2).mono ?_); rintro e w2 ⟨rfl, hb⟩; have H2 := Aside0.mk (And.intro (blk_below H1.out.1 hb) (below_step H1.out.2 hb)); clear hb b0 b1 b2 b3 b4; have b0 := (blk_cell H2.out.1 0).trans (show _ = some (.int .i64 C.p) from rfl); have b1 := (blk_cell H2.out.1 1).trans (show _ = some (.int .i64 C.f) from rfl); have b2 := (blk_cell H2.out.1 2).trans (show _ = some (.slice A2 C.ws.length c2) from rfl); have b3 := (blk_cell H2.out.1 3).trans (show _ = some (.slice A3 C.ks.length c3) from rfl); have b4 := (blk_cell H2.out.1 4).trans (show _ = some (.slice A4 C.ac.length c4) from rfl)) | (go_at_call 47; (with_reducible refine (CH.out _ H2.out.2).mono ?_); rintro e w3 ⟨rfl, hb⟩; have H3 := Aside0.mk (below_step H2.out.2 hb); clear hb))
    go_ret
    exact ⟨rfl, H3.out⟩
set_option maxHeartbeats 16000000 in
set_option maxRecDepth 100000 in
theorem rbefore_any {C : Cfg} {A2 A3 A4 : Option Addr} {c2 c3 c4 : Nat} {w : World} (hX : CX w C A2 c2 A3 c3 A4 c4) (lk : C.ks.length ≤ 1000) (la : C.ac.length ≤ 1000) (lw : C.ws.length ≤ 1000) (o : Int) (now : Int) :
    Calls Tryd.prog 32 #[.agg #[.int .i64 C.p, .int .i64 C.f, .slice A2 C.ws.length c2, .slice A3 C.ks.length c3, .slice A4 C.ac.length c4], .int .i64 o, .int .i64 now] w fun e w' => e = .returned (.int .i64 (beforeN C o now)) ∧ Below w.heap.size w w' := by
  have CM : Aside0 (∀ W : World, Below w.heap.size w W → Calls Tryd.prog 36 #[.agg #[.int .i64 C.p, .int .i64 C.f, .slice A2 C.ws.length c2, .slice A3 C.ks.length c3, .slice A4 C.ac.length c4]] W fun e w' => e = .returned (.bool (okB C)) ∧ Below W.heap.size W w') := ⟨fun W hb => rmay_any (hX.below hb) lw lk la⟩
  obtain ⟨ok, hok⟩ : ∃ ok, okB C = ok := ⟨_, rfl⟩
  rw [hok] at CM
  cases ok
  ·
    rw [no_before hok o now]
    clear hok hX lk la lw
    have H1 : Aside0 ((w.alloc (.cells #[.int .i64 C.p, .int .i64 C.f, .slice A2 C.ws.length c2, .slice A3 C.ks.length c3, .slice A4 C.ac.length c4] 26)).heap[w.heap.size]? = some (.cells #[.int .i64 C.p, .int .i64 C.f, .slice A2 C.ws.length c2, .slice A3 C.ks.length c3, .slice A4 C.ac.length c4] 26 (0, 0)) ∧ Below w.heap.size w (w.alloc (.cells #[.int .i64 C.p, .int .i64 C.f, .slice A2 C.ws.length c2, .slice A3 C.ks.length c3, .slice A4 C.ac.length c4] 26))) := ⟨⟨blk_new _ _, below_alloc (Below.refl _ _) _⟩⟩
    have b0 := (blk_cell H1.out.1 0).trans (show _ = some (.int .i64 C.p) from rfl)
    have b1 := (blk_cell H1.out.1 1).trans (show _ = some (.int .i64 C.f) from rfl)
    have b2 := (blk_cell H1.out.1 2).trans (show _ = some (.slice A2 C.ws.length c2) from rfl)
    have b3 := (blk_cell H1.out.1 3).trans (show _ = some (.slice A3 C.ks.length c3) from rfl)
    have b4 := (blk_cell H1.out.1 4).trans (show _ = some (.slice A4 C.ac.length c4) from rfl)
    go_enter Tryd.func32, Tryd.ntmps32
    go_wp2_with (first | (go_at_call 36; (with_reducible refine (CM.out _ H1.out.2).mono ?_); rintro e w2 ⟨rfl, hb⟩; have H2 := Aside0.mk (And.intro (blk_below H1.out.1 hb) (below_step H1.out.2 hb)); clear hb b0 b1 b2 b3 b4))
    go_ret
    exact ⟨rfl, H2.out.2⟩
  ·
    have hf := (ok_hd hok).2.1
    have hcc := ok_count hok o
    have hpp := ok_phase hok now
    have HV : Aside0 (beforeN C o now = tadd (tmul (cut now / fr C.f) (countN C o)) (belowN C o (phase C now))) := ⟨rfl⟩
    have hbn : belowN C o (phase C now) = ((cnt (phase C now) (phs C o) : Nat) : Int) := rfl
    have CH : Aside0 (∀ W : World, Below w.heap.size w W → Calls Tryd.prog 47 #[.agg #[.int .i64 C.p, .int .i64 C.f, .slice A2 C.ws.length c2, .slice A3 C.ks.length c3, .slice A4 C.ac.length c4], .int .i64 o, .int .i64 C.f] W fun e w' => e = .returned (.int .i64 (countN C o)) ∧ Below W.heap.size W w') := ⟨fun W hb => by rw [← hcc]; exact rahead_any (hX.below hb) lk la lw hok o C.f (by omega) hf.2⟩
    have CQ : Aside0 (∀ W : World, Below w.heap.size w W → Calls Tryd.prog 47 #[.agg #[.int .i64 C.p, .int .i64 C.f, .slice A2 C.ws.length c2, .slice A3 C.ks.length c3, .slice A4 C.ac.length c4], .int .i64 o, .int .i64 (phase C now)] W fun e w' => e = .returned (.int .i64 (belowN C o (phase C now))) ∧ Below W.heap.size W w') := ⟨fun W hb => by rw [hbn]; exact rahead_any (hX.below hb) lk la lw hok o (phase C now) hpp.2.1 (by omega)⟩
    have PX : Aside0 (∀ W : World, Calls Tryd.prog 40 #[.int .i64 now, .int .i64 C.f] W fun e w' => e = .returned (.int .i64 (phase C now)) ∧ W = w') := ⟨fun W => rphase_any now C.f W⟩
    have RX : Aside0 (∀ W : World, Calls Tryd.prog 49 #[.int .i64 now, .int .i64 C.f] W fun e w' => e = .returned (.int .i64 (cut now / fr C.f)) ∧ W = w') := ⟨fun W => rround_any now C.f W⟩
    clear hbn hpp hf hcc hok hX lk la lw
    generalize beforeN C o now = res at HV ⊢
    generalize belowN C o (phase C now) = bq at CQ HV
    generalize phase C now = ph at PX CQ
    generalize countN C o = k at CH HV
    generalize cut now / fr C.f = rd at RX HV
    have H1 : Aside0 ((w.alloc (.cells #[.int .i64 C.p, .int .i64 C.f, .slice A2 C.ws.length c2, .slice A3 C.ks.length c3, .slice A4 C.ac.length c4] 26)).heap[w.heap.size]? = some (.cells #[.int .i64 C.p, .int .i64 C.f, .slice A2 C.ws.length c2, .slice A3 C.ks.length c3, .slice A4 C.ac.length c4] 26 (0, 0)) ∧ Below w.heap.size w (w.alloc (.cells #[.int .i64 C.p, .int .i64 C.f, .slice A2 C.ws.length c2, .slice A3 C.ks.length c3, .slice A4 C.ac.length c4] 26))) := ⟨⟨blk_new _ _, below_alloc (Below.refl _ _) _⟩⟩
    have b0 := (blk_cell H1.out.1 0).trans (show _ = some (.int .i64 C.p) from rfl)
    have b1 := (blk_cell H1.out.1 1).trans (show _ = some (.int .i64 C.f) from rfl)
    have b2 := (blk_cell H1.out.1 2).trans (show _ = some (.slice A2 C.ws.length c2) from rfl)
    have b3 := (blk_cell H1.out.1 3).trans (show _ = some (.slice A3 C.ks.length c3) from rfl)
    have b4 := (blk_cell H1.out.1 4).trans (show _ = some (.slice A4 C.ac.length c4) from rfl)
    go_enter Tryd.func32, Tryd.ntmps32
    go_upto_region 4 with (first | (go_at_call 36; (with_reducible refine (CM.out _ H1.out.2).mono ?_); rintro e w2 ⟨rfl, hb⟩; have H2 := Aside0.mk (And.intro (blk_below H1.out.1 hb) (below_step H1.out.2 hb)); clear hb b0 b1 b2 b3 b4; have b0 := (blk_cell H2.out.1 0).trans (show _ = some (.int .i64 C.p) from rfl); have b1 := (blk_cell H2.out.1 1).trans (show _ = some (.int .i64 C.f) from rfl); have b2 := (blk_cell H2.out.1 2).trans (show _ = some (.slice A2 C.ws.length c2) from rfl); have b3 := (blk_cell H2.out.1 3).trans (show _ = some (.slice A3 C.ks.length c3) from rfl); have b4 := (blk_cell H2.out.1 4).trans (show _ = some (.slice A4 C.ac.length c4) from rfl)))
    have TS := Aside0.mk (fun (W : World) (hb : Below w2.heap.size w2 W) => And.intro (cell_b b0 hb) (And.intro (cell_b b1 hb) (And.intro (cell_b b2 hb) (And.intro (cell_b b3 hb) (cell_b b4 hb)))))
    have HB := Aside0.mk (below_drew (Below.refl w2.heap.size w2))
    refine start_ (n := 19) (S := (fun w' => w'.cell? ⟨w.heap.size, 0, none⟩ = some (.int .i64 C.p) ∧ w'.cell? ⟨w.heap.size, 1, none⟩ = some (.int .i64 C.f) ∧ w'.cell? ⟨w.heap.size, 2, none⟩ = some (.slice A2 C.ws.length c2) ∧ w'.cell? ⟨w.heap.size, 3, none⟩ = some (.slice A3 C.ks.length c3) ∧ w'.cell? ⟨w.heap.size, 4, none⟩ = some (.slice A4 C.ac.length c4))) (ds := []) #[false, false, false, false, false, false, false, false, false, false, false, false, false, false, false, false, false, false, false] (by kernel_rfl) rfl rfl (TS.out _ (below_drew (Below.refl _ _))) (fun hHeld => ?_)
    refine pure_ (i := 0) (N := some 12) (v := ?_) (a' := ?_) #[true, false, false, false, false, false, false, false, false, false, false, false, false, false, false, false, false, false, false] rfl rfl (by kernel_rfl) (fun _ _ _ h => h) (Or.inl ⟨by rfl, ?_⟩) ?_ ?_
    rotate_left
    · intro w'
      go_simp
      with_reducible rfl
    rotate_left
    · simp only [Act.put, List.setIfInBounds_toArray, List.set_cons_zero, List.set_cons_succ, i64_w, i32_w]
      rfl
    refine pure_ (i := 1) (N := some 13) (v := ?_) (a' := ?_) #[true, true, false, false, false, false, false, false, false, false, false, false, false, false, false, false, false, false, false] rfl rfl (by kernel_rfl) (fun _ _ _ h => h) (Or.inl ⟨by rfl, ?_⟩) ?_ ?_
    rotate_left
    · intro w'
      go_simp
      with_reducible rfl
    rotate_left
    · simp only [Act.put, List.setIfInBounds_toArray, List.set_cons_zero, List.set_cons_succ, i64_w, i32_w]
      rfl
    refine take_ (i := 2) (N := some 14) (v := ?_) (a' := ?_) #[true, true, true, false, false, false, false, false, false, false, false, false, false, false, false, false, false, false, false] rfl rfl (by kernel_rfl) (fun _ _ _ h => h) (Or.inl ⟨by rfl, ?_⟩) hHeld ?_ ?_
    rotate_left
    · intro w' hSw
      obtain ⟨s0, s1, s2, s3, s4⟩ := hSw
      go_simp
      with_reducible rfl
    rotate_left
    · simp only [Act.put, List.setIfInBounds_toArray, List.set_cons_zero, List.set_cons_succ, i64_w, i32_w]
      rfl
    refine take_ (i := 4) (N := some 16) (v := ?_) (a' := ?_) #[true, true, true, false, true, false, false, false, false, false, false, false, false, false, false, false, false, false, false] rfl rfl (by kernel_rfl) (fun _ _ _ h => h) (Or.inl ⟨by rfl, ?_⟩) hHeld ?_ ?_
    rotate_left
    · intro w' hSw
      obtain ⟨s0, s1, s2, s3, s4⟩ := hSw
      go_simp
      with_reducible rfl
    rotate_left
    · simp only [Act.put, List.setIfInBounds_toArray, List.set_cons_zero, List.set_cons_succ, i64_w, i32_w]
      rfl
    refine pure_ (i := 5) (N := some 17) (v := ?_) (a' := ?_) #[true, true, true, false, true, true, false, false, false, false, false, false, false, false, false, false, false, false, false] rfl rfl (by kernel_rfl) (fun _ _ _ h => h) (Or.inl ⟨by rfl, ?_⟩) ?_ ?_
    rotate_left
    · intro w'
      go_simp
      with_reducible rfl
    rotate_left
    · simp only [Act.put, List.setIfInBounds_toArray, List.set_cons_zero, List.set_cons_succ, i64_w, i32_w]
      rfl
    refine pure_ (i := 6) (N := some 18) (v := ?_) (a' := ?_) #[true, true, true, false, true, true, true, false, false, false, false, false, false, false, false, false, false, false, false] rfl rfl (by kernel_rfl) (fun _ _ _ h => h) (Or.inl ⟨by rfl, ?_⟩) ?_ ?_
    rotate_left
    · intro w'
      go_simp
      with_reducible rfl
    rotate_left
    · simp only [Act.put, List.setIfInBounds_toArray, List.set_cons_zero, List.set_cons_succ, i64_w, i32_w]
      rfl
    refine take_ (i := 7) (N := some 19) (v := ?_) (a' := ?_) #[true, true, true, false, true, true, true, true, false, false, false, false, false, false, false, false, false, false, false] rfl rfl (by kernel_rfl) (fun _ _ _ h => h) (Or.inl ⟨by rfl, ?_⟩) hHeld ?_ ?_
    rotate_left
    · intro w' hSw
      obtain ⟨s0, s1, s2, s3, s4⟩ := hSw
      go_simp
      with_reducible rfl
    rotate_left
    · simp only [Act.put, List.setIfInBounds_toArray, List.set_cons_zero, List.set_cons_succ, i64_w, i32_w]
      rfl
    refine take_ (i := 10) (N := some 22) (v := ?_) (a' := ?_) #[true, true, true, false, true, true, true, true, false, false, true, false, false, false, false, false, false, false, false] rfl rfl (by kernel_rfl) (fun _ _ _ h => h) (Or.inl ⟨by rfl, ?_⟩) hHeld ?_ ?_
    rotate_left
    · intro w' hSw
      obtain ⟨s0, s1, s2, s3, s4⟩ := hSw
      go_simp
      with_reducible rfl
    rotate_left
    · simp only [Act.put, List.setIfInBounds_toArray, List.set_cons_zero, List.set_cons_succ, i64_w, i32_w]
      rfl
    refine pure_ (i := 11) (N := some 23) (v := ?_) (a' := ?_) #[true, true, true, false, true, true, true, true, false, false, true, true, false, false, false, false, false, false, false] rfl rfl (by kernel_rfl) (fun _ _ _ h => h) (Or.inl ⟨by rfl, ?_⟩) ?_ ?_
    rotate_left
    · intro w'
      go_simp
      with_reducible rfl
    rotate_left
    · simp only [Act.put, List.setIfInBounds_toArray, List.set_cons_zero, List.set_cons_succ, i64_w, i32_w]
      rfl
    refine pure_ (i := 12) (N := some 24) (v := ?_) (a' := ?_) #[true, true, true, false, true, true, true, true, false, false, true, true, true, false, false, false, false, false, false] rfl rfl (by kernel_rfl) (fun _ _ _ h => h) (Or.inl ⟨by rfl, ?_⟩) ?_ ?_
    rotate_left
    · intro w'
      go_simp
      with_reducible rfl
    rotate_left
    · simp only [Act.put, List.setIfInBounds_toArray, List.set_cons_zero, List.set_cons_succ, i64_w, i32_w]
      rfl
    refine pure_ (i := 13) (N := some 25) (v := ?_) (a' := ?_) #[true, true, true, false, true, true, true, true, false, false, true, true, true, true, false, false, false, false, false] rfl rfl (by kernel_rfl) (fun _ _ _ h => h) (Or.inl ⟨by rfl, ?_⟩) ?_ ?_
    rotate_left
    · intro w'
      go_simp
      with_reducible rfl
    rotate_left
    · simp only [Act.put, List.setIfInBounds_toArray, List.set_cons_zero, List.set_cons_succ, i64_w, i32_w]
      rfl
    refine take_ (i := 14) (N := some 26) (v := ?_) (a' := ?_) #[true, true, true, false, true, true, true, true, false, false, true, true, true, true, true, false, false, false, false] rfl rfl (by kernel_rfl) (fun _ _ _ h => h) (Or.inl ⟨by rfl, ?_⟩) hHeld ?_ ?_
    rotate_left
    · intro w' hSw
      obtain ⟨s0, s1, s2, s3, s4⟩ := hSw
      go_simp
      with_reducible rfl
    rotate_left
    · simp only [Act.put, List.setIfInBounds_toArray, List.set_cons_zero, List.set_cons_succ, i64_w, i32_w]
      rfl
    clear hHeld
    refine one_ (i := 3) (N := some 15) #[true, true, true, true, true, true, true, true, false, false, true, true, true, true, true, false, false, false, false] rfl rfl (by kernel_rfl) (by decide) (fun K hK => ?_)
    refine goes_ Tryd.func49 (by kernel_rfl) rfl #[.int .i64 now, .int .i64 C.f] (by rfl) rfl rfl (by (try simp only [List.map_toArray, List.map_cons, List.map_nil]); first | done | rfl | (simp only [List.length_drop, List.length_take]; rfl)) ?_
    (with_reducible refine (RX.out _).mono ?_)
    rintro e w11 ⟨rfl, rfl⟩
    refine ⟨_, rfl, ?_⟩
    refine hK.out _ _ (TS.out _ HB.out) (fun hHeld => ?_)
    clear hK K
    refine norm_ (a' := ?_) ?_ ?_
    rotate_left
    · show Act.put _ (some 15) _ = _
      simp only [Act.put, List.setIfInBounds_toArray, List.set_cons_zero, List.set_cons_succ, i64_w, i32_w]
      rfl
    clear hHeld
    refine one_ (i := 8) (N := some 20) #[true, true, true, true, true, true, true, true, true, false, true, true, true, true, true, false, false, false, false] rfl rfl (by kernel_rfl) (by decide) (fun K hK => ?_)
    refine goes_ Tryd.func47 (by kernel_rfl) rfl #[.agg #[.int .i64 C.p, .int .i64 C.f, .slice A2 C.ws.length c2, .slice A3 C.ks.length c3, .slice A4 C.ac.length c4], .int .i64 o, .int .i64 C.f] (by rfl) rfl rfl (by (try simp only [List.map_toArray, List.map_cons, List.map_nil]); first | done | rfl | (simp only [List.length_drop, List.length_take]; rfl)) ?_
    (with_reducible refine (CH.out _ (below_step H2.out.2 HB.out)).mono ?_)
    rintro e w11 ⟨rfl, hb⟩
    refine ⟨_, rfl, ?_⟩
    have HBn := Aside0.mk (below_step HB.out hb)
    clear HB
    have HB := HBn
    clear HBn
    clear hb
    refine hK.out _ _ (TS.out _ HB.out) (fun hHeld => ?_)
    clear hK K
    refine norm_ (a' := ?_) ?_ ?_
    rotate_left
    · show Act.put _ (some 20) _ = _
      simp only [Act.put, List.setIfInBounds_toArray, List.set_cons_zero, List.set_cons_succ, i64_w, i32_w]
      rfl
    clear hHeld
    refine one_ (i := 9) (N := some 21) #[true, true, true, true, true, true, true, true, true, true, true, true, true, true, true, false, false, false, false] rfl rfl (by kernel_rfl) (by decide) (fun K hK => ?_)
    refine goes_ Tryd.func48 (by kernel_rfl) rfl #[.int .i64 rd, .int .i64 k] (by rfl) rfl rfl (by (try simp only [List.map_toArray, List.map_cons, List.map_nil]); first | done | rfl | (simp only [List.length_drop, List.length_take]; rfl)) ?_
    (with_reducible refine (rmul_any _ _ _).mono ?_)
    rintro e w11 ⟨rfl, rfl⟩
    refine ⟨_, rfl, ?_⟩
    refine hK.out _ _ (TS.out _ HB.out) (fun hHeld => ?_)
    clear hK K
    refine norm_ (a' := ?_) ?_ ?_
    rotate_left
    · show Act.put _ (some 21) _ = _
      simp only [Act.put, List.setIfInBounds_toArray, List.set_cons_zero, List.set_cons_succ, i64_w, i32_w]
      rfl
    clear hHeld
    refine one_ (i := 15) (N := some 27) #[true, true, true, true, true, true, true, true, true, true, true, true, true, true, true, true, false, false, false] rfl rfl (by kernel_rfl) (by decide) (fun K hK => ?_)
    refine goes_ Tryd.func40 (by kernel_rfl) rfl #[.int .i64 now, .int .i64 C.f] (by rfl) rfl rfl (by (try simp only [List.map_toArray, List.map_cons, List.map_nil]); first | done | rfl | (simp only [List.length_drop, List.length_take]; rfl)) ?_
    (with_reducible refine (PX.out _).mono ?_)
    rintro e w11 ⟨rfl, rfl⟩
    refine ⟨_, rfl, ?_⟩
    refine hK.out _ _ (TS.out _ HB.out) (fun hHeld => ?_)
    clear hK K
    refine norm_ (a' := ?_) ?_ ?_
    rotate_left
    · show Act.put _ (some 27) _ = _
      simp only [Act.put, List.setIfInBounds_toArray, List.set_cons_zero, List.set_cons_succ, i64_w, i32_w]
      rfl
    clear hHeld
    refine one_ (i := 16) (N := some 28) #[true, true, true, true, true, true, true, true, true, true, true, true, true, true, true, true, true, false, false] rfl rfl (by kernel_rfl) (by decide) (fun K hK => ?_)
    refine goes_ Tryd.func47 (by kernel_rfl) rfl #[.agg #[.int .i64 C.p, .int .i64 C.f, .slice A2 C.ws.length c2, .slice A3 C.ks.length c3, .slice A4 C.ac.length c4], .int .i64 o, .int .i64 ph] (by rfl) rfl rfl (by (try simp only [List.map_toArray, List.map_cons, List.map_nil]); first | done | rfl | (simp only [List.length_drop, List.length_take]; rfl)) ?_
    (with_reducible refine (CQ.out _ (below_step H2.out.2 HB.out)).mono ?_)
    rintro e w11 ⟨rfl, hb⟩
    refine ⟨_, rfl, ?_⟩
    have HBn := Aside0.mk (below_step HB.out hb)
    clear HB
    have HB := HBn
    clear HBn
    clear hb
    refine hK.out _ _ (TS.out _ HB.out) (fun hHeld => ?_)
    clear hK K
    refine norm_ (a' := ?_) ?_ ?_
    rotate_left
    · show Act.put _ (some 28) _ = _
      simp only [Act.put, List.setIfInBounds_toArray, List.set_cons_zero, List.set_cons_succ, i64_w, i32_w]
      rfl
    clear hHeld
    refine one_ (i := 17) (N := some 29) #[true, true, true, true, true, true, true, true, true, true, true, true, true, true, true, true, true, true, false] rfl rfl (by kernel_rfl) (by decide) (fun K hK => ?_)
    refine goes_ Tryd.func34 (by kernel_rfl) rfl #[.int .i64 (tmul rd k), .int .i64 bq] (by rfl) rfl rfl (by (try simp only [List.map_toArray, List.map_cons, List.map_nil]); first | done | rfl | (simp only [List.length_drop, List.length_take]; rfl)) ?_
    (with_reducible refine (radd_any _ _ _).mono ?_)
    rintro e w11 ⟨rfl, rfl⟩
    refine ⟨_, rfl, ?_⟩
    refine hK.out _ _ (TS.out _ HB.out) (fun hHeld => ?_)
    clear hK K
    refine norm_ (a' := ?_) ?_ ?_
    rotate_left
    · show Act.put _ (some 29) _ = _
      simp only [Act.put, List.setIfInBounds_toArray, List.set_cons_zero, List.set_cons_succ, i64_w, i32_w]
      rfl
    refine pure_ (i := 18) (N := some 6) (v := ?_) (a' := ?_) #[true, true, true, true, true, true, true, true, true, true, true, true, true, true, true, true, true, true, true] rfl rfl (by kernel_rfl) (fun _ _ _ h => h) (Or.inl ⟨by rfl, ?_⟩) ?_ ?_
    rotate_left
    · intro w'
      go_simp
      with_reducible rfl
    rotate_left
    · simp only [Act.put, List.setIfInBounds_toArray, List.set_cons_zero, List.set_cons_succ, i64_w, i32_w]
      rfl
    refine done_ (by kernel_rfl) ?_
    go_wp2
    go_ret
    exact ⟨by rw [HV.out]; rfl, below_step H2.out.2 HB.out⟩
end Go.Proofs.YtcebmgndniejcaaDoor.Wn

/- Layer 13 (window): what the document's answers come to, by hand: Until, Nth, Serves. -/
set_option linter.unusedVariables false
set_option linter.unusedSimpArgs false
namespace Go.Proofs.YtcebmgndniejcaaDoor.Wn
open Go Go.RowKit Go.Shelf Go.Proofs.YtcebmgndniejcaaDoorW.PrintWords Go.Proofs.YtcebmgndniejcaaDoorW.PrintLast Go.Proofs.YtcebmgndniejcaaDoorW.PrintMore Go.Proofs.YtcebmgndniejcaaDoor.Cz Go.Proofs.YtcebmgndniejcaaDoor.PBoundWaits Go.Proofs.YtcebmgndniejcaaDoor.Cf Go.Proofs.YtcebmgndniejcaaDoor.Sat
attribute [local go_sem] Tryd.underlying26 Tryd.underlying41 Tryd.underlying43
set_option maxHeartbeats 16000000 in
set_option maxRecDepth 100000 in
theorem rnth_any {C : Cfg} {A2 A3 A4 : Option Addr} {c2 c3 c4 : Nat} {w : World} (hX : CX w C A2 c2 A3 c3 A4 c4) (lk : C.ks.length ≤ 1000) (la : C.ac.length ≤ 1000) (lw : C.ws.length ≤ 1000) (o : Int) (m : Int) :
    Calls Tryd.prog 33 #[.agg #[.int .i64 C.p, .int .i64 C.f, .slice A2 C.ws.length c2, .slice A3 C.ks.length c3, .slice A4 C.ac.length c4], .int .i64 o, .int .i64 m] w fun e w' => e = .returned (.int .i64 (nthN C o m)) ∧ Below w.heap.size w w' := by
  have CC : Aside0 (∀ W : World, Below w.heap.size w W → Calls Tryd.prog 31 #[.agg #[.int .i64 C.p, .int .i64 C.f, .slice A2 C.ws.length c2, .slice A3 C.ks.length c3, .slice A4 C.ac.length c4], .int .i64 o] W fun e w' => e = .returned (.int .i64 (countN C o)) ∧ Below W.heap.size W w') := ⟨fun W hb => rcount_any (hX.below hb) lk la lw o⟩
  have H1 : Aside0 ((w.alloc (.cells #[.int .i64 C.p, .int .i64 C.f, .slice A2 C.ws.length c2, .slice A3 C.ks.length c3, .slice A4 C.ac.length c4] 26)).heap[w.heap.size]? = some (.cells #[.int .i64 C.p, .int .i64 C.f, .slice A2 C.ws.length c2, .slice A3 C.ks.length c3, .slice A4 C.ac.length c4] 26 (0, 0)) ∧ Below w.heap.size w (w.alloc (.cells #[.int .i64 C.p, .int .i64 C.f, .slice A2 C.ws.length c2, .slice A3 C.ks.length c3, .slice A4 C.ac.length c4] 26))) := ⟨⟨blk_new _ _, below_alloc (Below.refl _ _) _⟩⟩
  have b0 := (blk_cell H1.out.1 0).trans (show _ = some (.int .i64 C.p) from rfl)
  have b1 := (blk_cell H1.out.1 1).trans (show _ = some (.int .i64 C.f) from rfl)
  have b2 := (blk_cell H1.out.1 2).trans (show _ = some (.slice A2 C.ws.length c2) from rfl)
  have b3 := (blk_cell H1.out.1 3).trans (show _ = some (.slice A3 C.ks.length c3) from rfl)
  have b4 := (blk_cell H1.out.1 4).trans (show _ = some (.slice A4 C.ac.length c4) from rfl)
  by_cases hc : countN C o = 0
  ·
    have hun : nthN C o m = -1 := by unfold nthN; rw [if_pos hc]
    rw [hun]
    rw [hc] at CC
    clear hun hc hX lk la lw
    go_enter Tryd.func33, Tryd.ntmps33
    go_wp2_with (first | (go_at_call 31; (with_reducible refine (CC.out _ H1.out.2).mono ?_); rintro e w2 ⟨rfl, hb⟩; have H2 := Aside0.mk (And.intro (blk_below H1.out.1 hb) (below_step H1.out.2 hb)); clear hb b0 b1 b2 b3 b4))
    go_ret
    exact ⟨rfl, H2.out.2⟩
  ·
    have hok : okB C = true := by
      cases h : okB C
      · exact absurd (no_count h o) hc
      · rfl
    have hf := (ok_hd hok).2.1
    have hcn := countN_len C o
    have hps := phs_small C o
    obtain ⟨p, hp, hu, hat, hcp, hno⟩ := ok_nth hok (m := m) hc
    have CT : Aside0 (∀ (t : Int) (W : World), Below w.heap.size w W → Calls Tryd.prog 39 #[.agg #[.int .i64 C.p, .int .i64 C.f, .slice A2 C.ws.length c2, .slice A3 C.ks.length c3, .slice A4 C.ac.length c4], .int .i64 t] W fun e w' => e = .returned (.tuple #[.int .i64 ((atW t C.ws).getD 0), .bool (atW t C.ws).isSome]) ∧ Below W.heap.size W w') := ⟨fun t W hb => rat_any (hX.below hb) lk la lw hok t⟩
    have CH : Aside0 (∀ (t : Int) (W : World), 0 ≤ t → t ≤ 64 → Below w.heap.size w W → Calls Tryd.prog 47 #[.agg #[.int .i64 C.p, .int .i64 C.f, .slice A2 C.ws.length c2, .slice A3 C.ks.length c3, .slice A4 C.ac.length c4], .int .i64 o, .int .i64 t] W fun e w' => e = .returned (.int .i64 ((cnt t (phs C o) : Nat) : Int)) ∧ Below W.heap.size W w') := ⟨fun t W h0 h1 hb => rahead_any (hX.below hb) lk la lw hok o t h0 h1⟩
    have d1 : decide (countN C o = 0) = false := decide_eq_false hc
    have d2 : (countN C o == 0) = false := beq_eq_false_iff_ne.mpr hc
    have hc0 := (cut_bd m).1
    have hc1 := (cut_bd m).2
    have hk0 : 0 < countN C o := by omega
    have hk1 : countN C o ≤ 512 := by omega
    have hdv : Int.tdiv (cut m) (countN C o) = cut m / countN C o := Int.tdiv_eq_ediv_of_nonneg hc0
    have hmv : Int.tmod (cut m) (countN C o) = cut m % countN C o := Int.tmod_eq_emod_of_nonneg hc0
    have hr0 : 0 ≤ cut m / countN C o := Int.ediv_nonneg hc0 (by omega)
    have hr1 : cut m / countN C o ≤ 4611686018427387904 := Int.le_trans (Int.ediv_le_self _ hc0) hc1
    have hl0 := Int.emod_nonneg (cut m) (show countN C o ≠ 0 by omega)
    have hl1 := Int.emod_lt_of_pos (cut m) hk0
    rw [hu]
    have HNO := Aside0.mk hno
    have HCP := Aside0.mk hcp
    have HAT := Aside0.mk hat
    have CX1 := Aside0.mk (fun w => rcut_any m w)
    clear hcn hps hu hok hX lk la lw hc hno hcp hat
    generalize cut m / countN C o = rd at hdv hr0 hr1 ⊢
    generalize cut m % countN C o = lf at hmv hl0 hl1 HNO HCP
    generalize countN C o = k at CC d1 d2 hk0 hk1 hdv hmv hl1
    generalize cut m = cm at hc0 hc1 hdv hmv CX1
    obtain ⟨hp0, hp1⟩ := hp
    have CXA : Aside0 True := ⟨trivial⟩
    go_enter Tryd.func33, Tryd.ntmps33
    go_upto_region 6 with (first | (go_at_call 31; (with_reducible refine (CC.out _ H1.out.2).mono ?_); rintro e w2 ⟨rfl, hb⟩; have H2 := Aside0.mk (And.intro (blk_below H1.out.1 hb) (below_step H1.out.2 hb)); clear hb b0 b1 b2 b3 b4) | (go_at_call 50; (with_reducible refine (CX1.out _).mono ?_); rintro e w3 ⟨rfl, rfl⟩))
    clear CXA CC d1 d2 H1 CX1 hk0 hk1 hdv hmv hc0 hc1
    go_wp2
    go_loopw [10] (fun v10 wr => ∃ j : Int, v10 = .int .i64 j ∧ 0 ≤ j ∧ j ≤ p ∧ Aside0 (wr.heap[w.heap.size]? = some (.cells #[.int .i64 C.p, .int .i64 C.f, .slice A2 C.ws.length c2, .slice A3 C.ks.length c3, .slice A4 C.ac.length c4] 26 (0, 0)) ∧ Below w.heap.size w wr)) (fun v10 _ => (p - intOf v10).toNat)
    case atStart => exact ⟨0, rfl, by omega, by omega, H2⟩
    case round =>
      clear H2
      rename_i gv10
      obtain ⟨j, rfl, hj0, hj1, HI⟩ := hrel
      have b0 := (blk_cell HI.out.1 0).trans (show _ = some (.int .i64 C.p) from rfl)
      have b1 := (blk_cell HI.out.1 1).trans (show _ = some (.int .i64 C.f) from rfl)
      have b2 := (blk_cell HI.out.1 2).trans (show _ = some (.slice A2 C.ws.length c2) from rfl)
      have b3 := (blk_cell HI.out.1 3).trans (show _ = some (.slice A3 C.ks.length c3) from rfl)
      have b4 := (blk_cell HI.out.1 4).trans (show _ = some (.slice A4 C.ac.length c4) from rfl)
      have d1 : decide (j < C.f) = true := decide_eq_true (by omega)
      have hi2 : wrap64 (j + 1) = j + 1 := w64_in (by omega) (by omega)
      have CTi := Aside0.mk (CT.out j)
      have CHj := Aside0.mk (fun W => CH.out j W hj0 (by omega))
      by_cases hjp : j = p
      · subst hjp
        have hw := HAT.out
        have hop : (some o).getD 0 = o := rfl
        have hos : (some o).isSome = true := rfl
        rw [hw, hop, hos] at CTi
        rw [HCP.out] at CHj
        clear hos hop hw HNO HAT HCP
        go_wp2_with (first | (go_at_call 39; (with_reducible refine (CTi.out _ HI.out.2).mono ?_); rintro e w8 ⟨rfl, hb⟩; have H8 := Aside0.mk (And.intro (blk_below HI.out.1 hb) (below_step HI.out.2 hb)); clear hb b0 b1 b2 b3 b4; have b0 := (blk_cell H8.out.1 0).trans (show _ = some (.int .i64 C.p) from rfl); have b1 := (blk_cell H8.out.1 1).trans (show _ = some (.int .i64 C.f) from rfl); have b2 := (blk_cell H8.out.1 2).trans (show _ = some (.slice A2 C.ws.length c2) from rfl); have b3 := (blk_cell H8.out.1 3).trans (show _ = some (.slice A3 C.ks.length c3) from rfl); have b4 := (blk_cell H8.out.1 4).trans (show _ = some (.slice A4 C.ac.length c4) from rfl)) | (go_at_call 47; (with_reducible refine (CHj.out _ H8.out.2).mono ?_); rintro e w9 ⟨rfl, hb⟩; have H9 := Aside0.mk (And.intro (blk_below H8.out.1 hb) (below_step H8.out.2 hb)); clear hb b0 b1 b2 b3 b4; have b0 := (blk_cell H9.out.1 0).trans (show _ = some (.int .i64 C.p) from rfl); have b1 := (blk_cell H9.out.1 1).trans (show _ = some (.int .i64 C.f) from rfl); have b2 := (blk_cell H9.out.1 2).trans (show _ = some (.slice A2 C.ws.length c2) from rfl); have b3 := (blk_cell H9.out.1 3).trans (show _ = some (.slice A3 C.ks.length c3) from rfl); have b4 := (blk_cell H9.out.1 4).trans (show _ = some (.slice A4 C.ac.length c4) from rfl)) | (go_at_call 48; (with_reducible refine (rmul_any _ _ _).mono ?_); rintro e w10 ⟨rfl, rfl⟩) | (go_at_call 34; (with_reducible refine (radd_any _ _ _).mono ?_); rintro e w11 ⟨rfl, rfl⟩))
        go_ret
        exact ⟨rfl, H9.out.2⟩
      · have hna := HNO.out j hjp
        have hwo : atW j C.ws = some o ∨ atW j C.ws = none ∨ ∃ r, atW j C.ws = some r ∧ decide (r = o) = false ∧ (r == o) = false ∧ r ≠ o := by
          cases h : atW j C.ws with
          | none => exact Or.inr (Or.inl rfl)
          | some r =>
            by_cases hr : r = o
            · exact Or.inl (by rw [hr])
            · exact Or.inr (Or.inr ⟨r, rfl, decide_eq_false hr, beq_eq_false_iff_ne.mpr hr, hr⟩)
        rcases hwo with hw | hw | ⟨r, hw, hr1, hr2, hr3⟩
        ·
          rw [hw] at CTi
          have hop : (some o).getD 0 = o := rfl
          have hos : (some o).isSome = true := rfl
          rw [hop, hos] at CTi
          clear hop hos
          have hq := hna hw
          clear hna
          generalize ((cnt j (phs C o) : Nat) : Int) = q at hq CHj
          have q1 : decide (q = lf) = false := decide_eq_false hq
          have q2 : (q == lf) = false := beq_eq_false_iff_ne.mpr hq
          clear hq hw
          go_wp2_with (first | (go_at_call 39; (with_reducible refine (CTi.out _ HI.out.2).mono ?_); rintro e w8 ⟨rfl, hb⟩; have H8 := Aside0.mk (And.intro (blk_below HI.out.1 hb) (below_step HI.out.2 hb)); clear hb b0 b1 b2 b3 b4; have b0 := (blk_cell H8.out.1 0).trans (show _ = some (.int .i64 C.p) from rfl); have b1 := (blk_cell H8.out.1 1).trans (show _ = some (.int .i64 C.f) from rfl); have b2 := (blk_cell H8.out.1 2).trans (show _ = some (.slice A2 C.ws.length c2) from rfl); have b3 := (blk_cell H8.out.1 3).trans (show _ = some (.slice A3 C.ks.length c3) from rfl); have b4 := (blk_cell H8.out.1 4).trans (show _ = some (.slice A4 C.ac.length c4) from rfl)) | (go_at_call 47; (with_reducible refine (CHj.out _ H8.out.2).mono ?_); rintro e w9 ⟨rfl, hb⟩; have H9 := Aside0.mk (And.intro (blk_below H8.out.1 hb) (below_step H8.out.2 hb)); clear hb b0 b1 b2 b3 b4; have b0 := (blk_cell H9.out.1 0).trans (show _ = some (.int .i64 C.p) from rfl); have b1 := (blk_cell H9.out.1 1).trans (show _ = some (.int .i64 C.f) from rfl); have b2 := (blk_cell H9.out.1 2).trans (show _ = some (.slice A2 C.ws.length c2) from rfl); have b3 := (blk_cell H9.out.1 3).trans (show _ = some (.slice A3 C.ks.length c3) from rfl); have b4 := (blk_cell H9.out.1 4).trans (show _ = some (.slice A4 C.ac.length c4) from rfl)))
          go_roundw
          case rel => exact ⟨j + 1, by first | rfl | rw [hi2] | go_num, by omega, by omega, H9⟩
          case measure => simp [intOf]; omega
        ·
          rw [hw] at CTi
          have hos : (none : Option Int).isSome = false := rfl
          rw [hos] at CTi
          clear hos
          generalize (none : Option Int).getD 0 = a at CTi
          have hne : (none : Option Int) ≠ some o := fun e => by cases e
          clear hna hne hw
          go_wp2_with (first | (go_at_call 39; (with_reducible refine (CTi.out _ HI.out.2).mono ?_); rintro e w8 ⟨rfl, hb⟩; have H8 := Aside0.mk (And.intro (blk_below HI.out.1 hb) (below_step HI.out.2 hb)); clear hb b0 b1 b2 b3 b4; have b0 := (blk_cell H8.out.1 0).trans (show _ = some (.int .i64 C.p) from rfl); have b1 := (blk_cell H8.out.1 1).trans (show _ = some (.int .i64 C.f) from rfl); have b2 := (blk_cell H8.out.1 2).trans (show _ = some (.slice A2 C.ws.length c2) from rfl); have b3 := (blk_cell H8.out.1 3).trans (show _ = some (.slice A3 C.ks.length c3) from rfl); have b4 := (blk_cell H8.out.1 4).trans (show _ = some (.slice A4 C.ac.length c4) from rfl)))
          go_roundw
          case rel => exact ⟨j + 1, by first | rfl | rw [hi2] | go_num, by omega, by omega, H8⟩
          case measure => simp [intOf]; omega
        ·
          rw [hw] at CTi
          have hop : (some r).getD 0 = r := rfl
          have hos : (some r).isSome = true := rfl
          rw [hop, hos] at CTi
          clear hop hos
          have hne : some r ≠ some o := fun e => hr3 (Option.some.inj e)
          clear hr3
          clear hna hne hw
          go_wp2_with (first | (go_at_call 39; (with_reducible refine (CTi.out _ HI.out.2).mono ?_); rintro e w8 ⟨rfl, hb⟩; have H8 := Aside0.mk (And.intro (blk_below HI.out.1 hb) (below_step HI.out.2 hb)); clear hb b0 b1 b2 b3 b4; have b0 := (blk_cell H8.out.1 0).trans (show _ = some (.int .i64 C.p) from rfl); have b1 := (blk_cell H8.out.1 1).trans (show _ = some (.int .i64 C.f) from rfl); have b2 := (blk_cell H8.out.1 2).trans (show _ = some (.slice A2 C.ws.length c2) from rfl); have b3 := (blk_cell H8.out.1 3).trans (show _ = some (.slice A3 C.ks.length c3) from rfl); have b4 := (blk_cell H8.out.1 4).trans (show _ = some (.slice A4 C.ac.length c4) from rfl)))
          go_roundw
          case rel => exact ⟨j + 1, by first | rfl | rw [hi2] | go_num, by omega, by omega, H8⟩
          case measure => simp [intOf]; omega
set_option maxHeartbeats 16000000 in
set_option maxRecDepth 100000 in
theorem rserves_any {C : Cfg} {A2 A3 A4 : Option Addr} {c2 c3 c4 : Nat} {w : World} (hX : CX w C A2 c2 A3 c3 A4 c4) (lk : C.ks.length ≤ 1000) (la : C.ac.length ≤ 1000) (lw : C.ws.length ≤ 1000) (now : Int) :
    Calls Tryd.prog 19 #[.agg #[.int .i64 C.p, .int .i64 C.f, .slice A2 C.ws.length c2, .slice A3 C.ks.length c3, .slice A4 C.ac.length c4], .int .i64 now] w fun e w' => e = .returned (.tuple #[.int .i64 ((servesN C now).getD 0), .bool (servesN C now).isSome]) ∧ Below w.heap.size w w' := by
  have CW : Aside0 (∀ W : World, Below w.heap.size w W → Calls Tryd.prog 20 #[.agg #[.int .i64 C.p, .int .i64 C.f, .slice A2 C.ws.length c2, .slice A3 C.ks.length c3, .slice A4 C.ac.length c4], .int .i64 now] W fun e w' => e = .returned (.tuple #[.int .i64 ((whoN C now).getD 0), .bool (whoN C now).isSome]) ∧ Below W.heap.size W w') := ⟨fun W hb => rwhose_any (hX.below hb) lk la lw now⟩
  have CB : Aside0 (∀ W : World, Below w.heap.size w W → Calls Tryd.prog 32 #[.agg #[.int .i64 C.p, .int .i64 C.f, .slice A2 C.ws.length c2, .slice A3 C.ks.length c3, .slice A4 C.ac.length c4], .int .i64 (-1), .int .i64 now] W fun e w' => e = .returned (.int .i64 (beforeN C (-1) now)) ∧ Below W.heap.size W w') := ⟨fun W hb => rbefore_any (hX.below hb) lk la lw (-1) now⟩
  have HX := Aside0.mk hX.k
  have hbd := before_bd C (-1) now
  have hql := qu_len C.ks C.ks.length
  have HV : Aside0 (servesN C now = if whoN C now = some (-1) then (if qs C = [] then none else some (rd (qs C) ((beforeN C (-1) now).tmod (qs C).length))) else none) := ⟨rfl⟩
  generalize servesN C now = res at HV ⊢
  generalize beforeN C (-1) now = bf at CB HV hbd
  clear hX la lw
  obtain ⟨wh, hwh⟩ : ∃ wh, whoN C now = wh := ⟨_, rfl⟩
  rw [hwh] at CW HV
  clear hwh
  have H1 : Aside0 ((w.alloc (.cells #[.int .i64 C.p, .int .i64 C.f, .slice A2 C.ws.length c2, .slice A3 C.ks.length c3, .slice A4 C.ac.length c4] 26)).heap[w.heap.size]? = some (.cells #[.int .i64 C.p, .int .i64 C.f, .slice A2 C.ws.length c2, .slice A3 C.ks.length c3, .slice A4 C.ac.length c4] 26 (0, 0)) ∧ Below w.heap.size w (w.alloc (.cells #[.int .i64 C.p, .int .i64 C.f, .slice A2 C.ws.length c2, .slice A3 C.ks.length c3, .slice A4 C.ac.length c4] 26))) := ⟨⟨blk_new _ _, below_alloc (Below.refl _ _) _⟩⟩
  have b0 := (blk_cell H1.out.1 0).trans (show _ = some (.int .i64 C.p) from rfl)
  have b1 := (blk_cell H1.out.1 1).trans (show _ = some (.int .i64 C.f) from rfl)
  have b2 := (blk_cell H1.out.1 2).trans (show _ = some (.slice A2 C.ws.length c2) from rfl)
  have b3 := (blk_cell H1.out.1 3).trans (show _ = some (.slice A3 C.ks.length c3) from rfl)
  have b4 := (blk_cell H1.out.1 4).trans (show _ = some (.slice A4 C.ac.length c4) from rfl)
  by_cases hr : wh = some (-1)
  · subst hr
    have HV2 : Aside0 (res = if qs C = [] then none else some (rd (qs C) (bf.tmod (qs C).length))) := ⟨by rw [HV.out, if_pos rfl]⟩
    clear HV
    have hop : (some (-1 : Int)).getD 0 = -1 := rfl
    have hos : (some (-1 : Int)).isSome = true := rfl
    rw [hop, hos] at CW
    clear hop hos
    go_enter Tryd.func19, Tryd.ntmps19
    go_wp2_with (first | (go_at_call 20; (with_reducible refine (CW.out _ H1.out.2).mono ?_); rintro e w2 ⟨rfl, hb⟩; have H2 := Aside0.mk (And.intro (blk_below H1.out.1 hb) (below_step H1.out.2 hb)); clear hb b0 b1 b2 b3 b4))
    have I1 : Aside0 (SS w w2 (.slice none 0 0) (qu C.ks 0) #[.int .i64 C.p, .int .i64 C.f, .slice A2 C.ws.length c2, .slice A3 C.ks.length c3, .slice A4 C.ac.length c4]) := ⟨⟨H2.out.1, Kd.R_nil _ _ _ _ _, H2.out.2⟩⟩
    clear H2 CW
    go_loopw [8, 9] (fun v8 v9 wr => ∃ j : Nat, v9 = .int .i64 j ∧ j ≤ C.ks.length ∧ Aside0 (SS w wr v8 (qu C.ks j) #[.int .i64 C.p, .int .i64 C.f, .slice A2 C.ws.length c2, .slice A3 C.ks.length c3, .slice A4 C.ac.length c4])) (fun _ v9 _ => C.ks.length - (intOf v9).toNat)
    case atStart => exact ⟨0, rfl, by omega, I1⟩
    case round =>
      clear I1
      rename_i gv8 gv9
      obtain ⟨j, rfl, hj, HI⟩ := hrel
      have b0 := (blk_cell HI.out.bg 0).trans (show _ = some (.int .i64 C.p) from rfl)
      have b1 := (blk_cell HI.out.bg 1).trans (show _ = some (.int .i64 C.f) from rfl)
      have b2 := (blk_cell HI.out.bg 2).trans (show _ = some (.slice A2 C.ws.length c2) from rfl)
      have b3 := (blk_cell HI.out.bg 3).trans (show _ = some (.slice A3 C.ks.length c3) from rfl)
      have b4 := (blk_cell HI.out.bg 4).trans (show _ = some (.slice A4 C.ac.length c4) from rfl)
      by_cases hlt : j < C.ks.length
      · have d1 : decide ((j : Int) < (C.ks.length : Int)) = true := decide_eq_true (by omega)
        have d1n : decide (j < C.ks.length) = true := decide_eq_true hlt
        have hcs := at_T43 (Kd.C_below HX.out HI.out.bel) (j : Int) (by omega) (by omega)
        rw [show rd_T43 C.ks (j : Int) = C.ks[j] by simp [rd_T43, hlt], Int.toNat_natCast] at hcs
        have HY := Aside0.mk (fun h => qu_yes (ks := C.ks) hlt h)
        have HN := Aside0.mk (fun h => qu_no (ks := C.ks) hlt h)
        have hjl := qu_len C.ks j
        generalize C.ks[j] = x at hcs HY HN
        obtain ⟨x0, x1, x2, x3, x4, x5, x6, x7, x8, x9, x10⟩ := x
        obtain ⟨ad, rfl, e0, e1, e2, e3, e4, e5, e6, e7, e8, e9, e10⟩ := hcs
        simp only [] at e0 HY HN
        clear e1 e2 e3 e4 e5 e6 e7 e8 e9 e10
        have hj0 : 0 ≤ (j : Int) := by omega
        have hj1 : (j : Int) < C.ks.length := by omega
        by_cases hk : x0 = 1
        · have q1 : decide (x0 = 1) = true := decide_eq_true hk
          have q2 : (x0 == 1) = true := beq_iff_eq.mpr hk
          have HYY := Aside0.mk (HY.out hk)
          clear hk
          go_wp2_with (first | ((with_reducible refine gate_builtin (b := .append) (xs := #[.tmp 36, .tmp 38]) rfl ?_); at_builtin; refine Kd.R_append (Kd.int .i64) (w0 := w) w.heap.size rfl (.tmp 36) (.tmp 38) 24 3 (.int .i64 0) 8 rfl Tryd.underlying24 info3 rfl (by decide) (by omega) _ (qu C.ks j) (j : Int) [.int .i64 j] (fun k => w.heap.size ≤ k) (fun _ => False) rfl rfl ?aP (fun _ hk => hk.elim) ?aF HI.out.r HI.out.bel ?aS ?aL ?_; (case aP => exact rfl); (case aF => exact (fun k hk => Nat.le_trans HI.out.bel.size hk)); (case aS => exact HI.out.bel.size); (case aL => omega); intro v9 w9 ho hb hg9 hat; have HI9 : Aside0 (SS w w9 v9 (qu C.ks j ++ [(j : Int)]) _) := ⟨blk_grown HI.out.bg hg9 (Kd.R_ne HI.out.r HI.out.bg (by decide)), ho, hb⟩; clear ho hb hg9 hat))
          go_roundw
          case rel => exact ⟨j + 1, by go_num, by omega, by rw [HYY.out]; exact HI9⟩
          case measure => simp [intOf]; omega
        · have q1 : decide (x0 = 1) = false := decide_eq_false hk
          have q2 : (x0 == 1) = false := beq_eq_false_iff_ne.mpr hk
          have HNN := Aside0.mk (HN.out hk)
          clear hk
          go_wp2
          go_roundw
          case rel => exact ⟨j + 1, by go_num, by omega, by rw [HNN.out]; exact HI⟩
          case measure => simp [intOf]; omega
      · have d1 : decide ((j : Int) < (C.ks.length : Int)) = false := decide_eq_false (by omega)
        have d1n : decide (j < C.ks.length) = false := decide_eq_false hlt
        obtain rfl : j = C.ks.length := by omega
        have hqq : qu C.ks C.ks.length = qs C := rfl
        rw [hqq] at HI hql
        clear hqq
        obtain ⟨B, d, rfl, hd, hcq⟩ := Kd.R_reads HI.out.r
        generalize qs C = q at HI HV2 hql hd hcq
        have HCQ := Aside0.mk hcq
        clear hcq
        by_cases hq : q = []
        · subst hq
          have HR : Aside0 (res = none) := ⟨by rw [HV2.out, if_pos rfl]⟩
          simp only [List.length_nil]
          go_wp2
          refine bodyPost_ret (results_tmp2 rfl _ _ _) rfl ?_
          rw [HR.out]
          exact ⟨rfl, HI.out.bel⟩
        · have hR : res = some (rd q (bf.tmod q.length)) := by rw [HV2.out, if_neg hq]
          have hql0 : 0 < q.length := List.length_pos_iff.2 hq
          have HR := Aside0.mk hR
          clear hR hq
          obtain ⟨n, hn⟩ : ∃ n, q.length = n := ⟨_, rfl⟩
          rw [hn] at hql0 hql hd HCQ HR ⊢
          clear hn
          have hnz : (n : Int) ≠ 0 := by omega
          have g1 : decide ((n : Int) = 0) = false := decide_eq_false hnz
          have g2 : ((n : Int) == 0) = false := beq_eq_false_iff_ne.mpr hnz
          have g3 : decide (n = 0) = false := decide_eq_false (by omega)
          have g4 : (n == 0) = false := beq_eq_false_iff_ne.mpr (by omega)
          have i0 : 0 ≤ bf.tmod n := Int.tmod_nonneg _ hbd.1
          have i1 : bf.tmod n < n := Int.tmod_lt_of_pos _ (by omega)
          generalize hi : bf.tmod (n : Int) = i at i0 i1 HR
          go_wp2_with (first | (go_at_call 32; (with_reducible refine (CB.out _ HI.out.bel).mono ?_); rintro e w3 ⟨rfl, hb⟩; obtain ⟨ad, rfl, hcell0⟩ := Kd.at_int (Kd.C_below HCQ.out hb) i i0 i1; have HB3 := Aside0.mk (below_step HI.out.bel hb); clear hb))
          refine bodyPost_ret (results_tmp2 rfl _ _ _) rfl ?_
          rw [HR.out]
          exact ⟨rfl, HB3.out⟩
  · have HR : Aside0 (res = none) := ⟨by rw [HV.out, if_neg hr]⟩
    clear HV
    cases wh with
    | none =>
      have hos : (none : Option Int).isSome = false := rfl
      rw [hos] at CW
      clear hos
      go_enter Tryd.func19, Tryd.ntmps19
      go_wp2_with (first | (go_at_call 20; (with_reducible refine (CW.out _ H1.out.2).mono ?_); rintro e w2 ⟨rfl, hb⟩; have H2 := Aside0.mk (And.intro (blk_below H1.out.1 hb) (below_step H1.out.2 hb)); clear hb b0 b1 b2 b3 b4))
      refine bodyPost_ret (results_tmp2 rfl _ _ _) rfl ?_
      rw [HR.out]
      exact ⟨rfl, H2.out.2⟩
    | some r =>
      have hrn : r ≠ -1 := fun h => hr (by rw [h])
      have d1 : decide (r = -1) = false := decide_eq_false hrn
      have d2 : (r == -1) = false := beq_eq_false_iff_ne.mpr hrn
      have hop : (some r).getD 0 = r := rfl
      have hos : (some r).isSome = true := rfl
      rw [hop, hos] at CW
      clear hop hos hr hrn
      go_enter Tryd.func19, Tryd.ntmps19
      go_wp2_with (first | (go_at_call 20; (with_reducible refine (CW.out _ H1.out.2).mono ?_); rintro e w2 ⟨rfl, hb⟩; have H2 := Aside0.mk (And.intro (blk_below H1.out.1 hb) (below_step H1.out.2 hb)); clear hb b0 b1 b2 b3 b4))
      refine bodyPost_ret (results_tmp2 rfl _ _ _) rfl ?_
      rw [HR.out]
      exact ⟨rfl, H2.out.2⟩
end Go.Proofs.YtcebmgndniejcaaDoor.Wn
