/- Layer 4 (config): the document's Check and May: May is what the program's Check says. -/
import Derived.Test.YtdebbanloopcgaaDoorRr
import Derived.Test.YtdebbanloopcgaaDoorCfM1
import Derived.Test.YtdebbanloopcgaaDoorCfPm
set_option linter.unusedVariables false
set_option linter.unusedSimpArgs false
namespace Go.Proofs.YtdebbanloopcgaaDoor.Cf
open Go.RowKit Go.Proofs.YtdebbanloopcgaaDoorW.PrintWords Go.Proofs.YtdebbanloopcgaaDoorW.PrintLast Go.Proofs.YtdebbanloopcgaaDoorW.PrintMore Go.Proofs.YtdebbanloopcgaaDoor.Cz Go.Proofs.YtdebbanloopcgaaDoor.PTableWrites
attribute [local go_sem] max2_int min2_int max_two min_two max_three min_three max_four min_four Tryd.underlying26 Tryd.underlying57 Tryd.underlying46 Tryd.underlying99
theorem drop_all {α : Type} {l : List α} {j : Nat} (h : j < l.length) (P : α → Prop) : (∀ x ∈ l.drop j, P x) ↔ P l[j] ∧ ∀ x ∈ l.drop (j + 1), P x := by
  rw [List.drop_eq_getElem_cons h, List.forall_mem_cons]
theorem badW_iff {p f en : Int} {x : S46} (hf : 1 ≤ f ∧ f ≤ 64) (he : 0 ≤ en) : badW p f en x = false ↔ (-1 ≤ x.f0 ∧ x.f0 ≤ p - 1) ∧ (1 ≤ x.f2 ∧ x.f2 ≤ 64) ∧ (en ≤ x.f1 ∧ x.f1 ≤ 64) ∧ ¬ f < x.f1 + x.f2 := by
  unfold badW
  simp only [Bool.or_eq_false_iff, Bool.not_eq_false', btw_iff, decide_eq_false_iff_not]
  omega
theorem hd_iff {p f n : Int} : Cz.hd p f n = none ↔ (1 ≤ p ∧ p ≤ 4) ∧ (1 ≤ f ∧ f ≤ 64) ∧ (1 ≤ n ∧ n ≤ 8) := by
  refine ⟨hd_none, fun h => ?_⟩
  unfold Cz.hd
  rw [btw_iff.2 h.1, btw_iff.2 h.2.1, btw_iff.2 h.2.2]
  rfl
theorem findI_no {α : Type} {q : α → Bool} : ∀ {l : List α} {i : Nat}, (∀ x ∈ l, q x = false) → findI q l i = -1
  | [], i, h => rfl
  | x :: t, i, h => by
    unfold findI
    rw [h x (List.mem_cons_self ..), if_neg (by decide)]
    exact findI_no fun y hy => h y (List.mem_cons_of_mem _ hy)
theorem findI_all {α : Type} {q : α → Bool} {l : List α} : ¬ 0 ≤ findI q l 0 ↔ ∀ x ∈ l, q x = false := by
  refine ⟨fun h => findI_neg (Int.not_le.1 h), fun h => ?_⟩
  rw [findI_no h]
  decide
theorem chk_e_iff (C : Cfg) : (chk C).e = 0 ↔ Cz.hd C.p C.f C.ws.length = none ∧ scanW C.p C.f 0 0 C.ws = none ∧ C.ks.length ≤ 6 ∧ (∀ x ∈ C.ks, rB C.p x = true) ∧ (C.ac.length : Int) = C.p ∧ ∀ n ∈ C.ac, btw n 0 2 = true := by
  have fk := findI_all (q := fun x => !rB C.p x) (l := C.ks)
  have fa := findI_all (q := fun n => !btw n 0 2) (l := C.ac)
  simp only [Bool.not_eq_false'] at fk fa
  unfold chk
  cases h1 : Cz.hd C.p C.f C.ws.length
  case some v => exact ⟨fun h => absurd h (by show ¬ ((4 : Int) = 0); decide), fun h => by cases h.1⟩
  case none =>
    unfold ls
    cases h2 : scanW C.p C.f 0 0 C.ws
    case some v => exact ⟨fun h => absurd h (by show ¬ ((4 : Int) = 0); decide), fun h => by cases h.2.1⟩
    case none =>
      by_cases h3 : 6 < C.ks.length
      · simp only [if_pos h3]
        exact ⟨fun h => absurd h (by show ¬ ((4 : Int) = 0); decide), fun h => by omega⟩
      · simp only [if_neg h3]
        by_cases h4 : 0 ≤ findI (fun x => !rB C.p x) C.ks 0
        · simp only [if_pos h4]
          exact ⟨fun h => absurd h (by show ¬ ((4 : Int) = 0); decide), fun h => absurd h4 (fk.2 h.2.2.2.1)⟩
        · simp only [if_neg h4]
          by_cases h5 : (C.ac.length : Int) = C.p
          · rw [if_neg (fun hh => hh h5)]
            by_cases h6 : 0 ≤ findI (fun n => !btw n 0 2) C.ac 0
            · simp only [if_pos h6]
              exact ⟨fun h => absurd h (by show ¬ ((4 : Int) = 0); decide), fun h => absurd h6 (fa.2 h.2.2.2.2.2)⟩
            · simp only [if_neg h6]
              exact ⟨fun _ => ⟨trivial, trivial, by omega, fk.1 h4, h5, fa.1 h6⟩, fun _ => trivial⟩
          · rw [if_pos h5]
            exact ⟨fun h => absurd h (by show ¬ ((4 : Int) = 0); decide), fun h => absurd h.2.2.2.2.1 h5⟩
/-- The answer that tells only whether a config may be. -/
def RE (w : World) (c : Int) (e : Ending) (w' : World) : Prop := (∃ a b : Int, e = .returned (.tuple #[.agg #[.int .i64 a, .int .i64 b], .int .i64 c])) ∧ Below w.heap.size w w'
theorem e_no {C : Cfg} (h : ¬ (chk C).e = 0) : (chk C).e = 4 := by
  unfold chk at h ⊢
  cases h1 : Cz.hd C.p C.f C.ws.length
  · rw [h1] at h
    cases h2 : ls C
    · rw [h2] at h
      exact absurd rfl h
    · rfl
  · rfl
theorem blk_new2 (w : World) (o : Obj) (cs : Array Value) (T : TypeId) : ((w.alloc o).alloc (.cells cs T)).heap[w.heap.size + 1]? = some (.cells cs T (0, 0)) := by
  have := blk_new (w.alloc o) (.cells cs T)
  rw [World.size_alloc] at this
  exact this
/-- Check's blocks. -/
structure RC (w W : World) (cfg : Array Value) : Prop where
  bg : W.heap[w.heap.size]? = some (.cells cfg 26 (0, 0))
  br : W.heap[w.heap.size + 1]? = some (.cells #[.int .i64 0, .int .i64 0] 99 (0, 0))
  bel : Below w.heap.size w W
theorem RC.far {w W W' : World} {cfg : Array Value} (h : RC w W cfg) (hb : Below W.heap.size W W') : RC w W' cfg := ⟨blk_below h.bg hb, blk_below h.br hb, below_step h.bel hb⟩
set_option maxHeartbeats 8000000 in
set_option maxRecDepth 100000 in
theorem rcheck_any {C : Cfg} {A2 A3 A4 : Option Addr} {c2 c3 c4 : Nat} {w : World} (h : CX w C A2 c2 A3 c3 A4 c4) (hw : C.ws.length ≤ 1000) (hk : C.ks.length ≤ 1000) (ha : C.ac.length ≤ 1000) :
    Calls Tryd.prog 56 #[.agg #[.int .i64 C.p, .int .i64 C.f, .slice A2 C.ws.length c2, .slice A3 C.ks.length c3, .slice A4 C.ac.length c4]] w (RE w (chk C).e) := by
  have HX := Aside0.mk h
  have T := Aside0.mk Tryd.underlying99
  have hE := chk_e_iff C
  rw [hd_iff] at hE
  have R0 : RC w ((w.alloc (.cells #[.int .i64 C.p, .int .i64 C.f, .slice A2 C.ws.length c2, .slice A3 C.ks.length c3, .slice A4 C.ac.length c4] 26)).alloc (.cells #[.int .i64 0, .int .i64 0] 99)) #[.int .i64 C.p, .int .i64 C.f, .slice A2 C.ws.length c2, .slice A3 C.ks.length c3, .slice A4 C.ac.length c4] := ⟨blk_alloc (blk_new w _) _, by have := blk_new (w.alloc (.cells #[.int .i64 C.p, .int .i64 C.f, .slice A2 C.ws.length c2, .slice A3 C.ks.length c3, .slice A4 C.ac.length c4] 26)) (.cells #[.int .i64 0, .int .i64 0] 99); rw [World.size_alloc] at this; exact this, below_alloc (below_alloc (Below.refl _ _) _) _⟩
  replace R0 := Aside0.mk R0
  clear h
  cases h1 : btw C.p 1 4
  · rw [e_no (fun he => by have hh := hE.1 he; rw [btw_iff.2 hh.1.1] at h1; cases h1)]
    clear hE hw hk ha
    go_enter Tryd.func56, Tryd.ntmps56
    go_wp2_with (first | (go_at_call 71; refine (rin_any _ _ _ _).mono ?_; rintro e w' ⟨rfl, rfl⟩))
    refine bodyPost_ret (results_ct rfl _ _ (w.heap.size + 1) 99 _ (0, 0) _ rfl (blk_new2 _ _ _ _) T.out rfl (by kernel_rfl)) rfl ?_
    exact ⟨⟨_, _, rfl⟩, below_alloc (below_alloc (Below.refl _ _) _) _⟩
  · skip
    cases h2 : btw C.f 1 64
    · rw [e_no (fun he => by have hh := hE.1 he; rw [btw_iff.2 hh.1.2.1] at h2; cases h2)]
      clear hE hw hk ha
      go_enter Tryd.func56, Tryd.ntmps56
      go_wp2_with (first | (go_at_call 71; refine (rin_any _ _ _ _).mono ?_; rintro e w' ⟨rfl, rfl⟩))
      refine bodyPost_ret (results_ct rfl _ _ (w.heap.size + 1) 99 _ (0, 0) _ rfl (blk_new2 _ _ _ _) T.out rfl (by kernel_rfl)) rfl ?_
      exact ⟨⟨_, _, rfl⟩, below_alloc (below_alloc (Below.refl _ _) _) _⟩
    · skip
      cases h3 : btw (C.ws.length : Int) 1 8
      · rw [e_no (fun he => by have hh := hE.1 he; rw [btw_iff.2 hh.1.2.2] at h3; cases h3)]
        clear hE hw hk ha
        go_enter Tryd.func56, Tryd.ntmps56
        go_wp2_with (first | (go_at_call 71; refine (rin_any _ _ _ _).mono ?_; rintro e w' ⟨rfl, rfl⟩))
        refine bodyPost_ret (results_ct rfl _ _ (w.heap.size + 1) 99 _ (0, 0) _ rfl (blk_new2 _ _ _ _) T.out rfl (by kernel_rfl)) rfl ?_
        exact ⟨⟨_, _, rfl⟩, below_alloc (below_alloc (Below.refl _ _) _) _⟩
      · skip
        have hp := btw_true h1
        have hf := btw_true h2
        have hn := btw_true h3
        have HP := Aside0.mk (And.intro hp hf)
        have hpw : wrap64 (C.p - 1) = C.p - 1 := by unfold wrap64; omega
        have HE := Aside0.mk (show (chk C).e = 0 ↔ scanW C.p C.f 0 0 C.ws = none ∧ C.ks.length ≤ 6 ∧ (∀ x ∈ C.ks, rB C.p x = true) ∧ (C.ac.length : Int) = C.p ∧ ∀ n ∈ C.ac, btw n 0 2 = true from hE.trans ⟨fun hh => hh.2, fun hh => ⟨⟨hp, hf, hn⟩, hh⟩⟩)
        clear hE hn
        obtain ⟨ec, hec⟩ : ∃ ec, (chk C).e = ec := ⟨_, rfl⟩
        have HEC := Aside0.mk hec
        rw [hec]
        clear hec
        have HNO := Aside0.mk (fun (hh : ¬ (chk C).e = 0) => HEC.out.symm.trans (e_no hh))
        go_enter Tryd.func56, Tryd.ntmps56
        go_wp2_with (first | (go_at_call 71; refine (rin_any _ _ _ _).mono ?_; rintro e w' ⟨rfl, rfl⟩))
        clear h1 h2 h3
        replace R0 := R0
        go_loopw [4, 5] (fun v4 v5 wr => ∃ (j : Nat) (en : Int), j ≤ C.ws.length ∧ v4 = .int .i64 en ∧ v5 = .int .i64 j ∧ Aside0 ((0 ≤ en ∧ en ≤ 128) ∧ scanW C.p C.f 0 0 C.ws = scanW C.p C.f en j (C.ws.drop j)) ∧ Aside0 (RC w wr #[.int .i64 C.p, .int .i64 C.f, .slice A2 C.ws.length c2, .slice A3 C.ks.length c3, .slice A4 C.ac.length c4])) (fun _ v5 _ => C.ws.length - (intOf v5).toNat)
        case atStart => exact ⟨0, 0, by omega, rfl, rfl, ⟨⟨by omega, by omega⟩, rfl⟩, R0⟩
        case round =>
          clear R0
          rename_i gv4 gv5
          obtain ⟨j, en, hj, rfl, rfl, HSC, R⟩ := hrel
          have b0 := (blk_cell R.out.bg 0).trans (show _ = some (.int .i64 C.p) from rfl)
          have b1 := (blk_cell R.out.bg 1).trans (show _ = some (.int .i64 C.f) from rfl)
          have b2 := (blk_cell R.out.bg 2).trans (show _ = some (.slice A2 C.ws.length c2) from rfl)
          have b3 := (blk_cell R.out.bg 3).trans (show _ = some (.slice A3 C.ks.length c3) from rfl)
          have b4 := (blk_cell R.out.bg 4).trans (show _ = some (.slice A4 C.ac.length c4) from rfl)
          by_cases hlt : j < C.ws.length
          · have d1 : decide ((j : Int) < (C.ws.length : Int)) = true := decide_eq_true (by omega)
            have d1n : decide (j < C.ws.length) = true := decide_eq_true hlt
            have hcs := at_T46 (Kd.C_below HX.out.w R.out.bel) (j : Int) (by omega) (by omega)
            rw [show rd_T46 C.ws (j : Int) = C.ws[j] by simp [rd_T46, hlt], Int.toNat_natCast] at hcs
            have hst := HSC.out.2.trans (scanW_step C.p C.f en C.ws j hlt)
            have hbw := badW_iff (p := C.p) (f := C.f) (en := en) (x := C.ws[j]) hf HSC.out.1.1
            have HST := Aside0.mk hst
            have HBW := Aside0.mk hbw
            clear hst hbw
            generalize C.ws[j] = x at hcs HST HBW
            obtain ⟨ad, rfl, e0, e1, e2⟩ := hcs
            have hj0 : 0 ≤ (j : Int) := by omega
            have hj1 : (j : Int) < C.ws.length := by omega
            have RW := R.out.far (below_alloc (Below.refl wr.heap.size wr) (.cells #[.int .i64 x.f0, .int .i64 x.f1, .int .i64 x.f2] 46))
            replace RW := Aside0.mk RW
            have z0 := (blk_cell RW.out.bg 0).trans (show _ = some (.int .i64 C.p) from rfl)
            have z1 := (blk_cell RW.out.bg 1).trans (show _ = some (.int .i64 C.f) from rfl)
            have hbad : badW C.p C.f en x = true → ec = 4 := fun hh => HNO.out (fun he => by have h5 := (HE.out.1 he).1; rw [HST.out, if_pos hh] at h5; cases h5)
            have HBAD := Aside0.mk (fun (hh : ¬ badW C.p C.f en x = false) => hbad (by simpa using hh))
            clear hbad
            cases t0 : btw x.f0 (-1) (C.p - 1)
            · have H4 := Aside0.mk (HBAD.out (fun h5 => by have hh := HBW.out.1 h5; rw [btw_iff.2 hh.1] at t0; cases t0))
              have r0 := (blk_cell RW.out.br 0).trans (show _ = some (.int .i64 0) from rfl)
              have r1 := (blk_cell RW.out.br 1).trans (show _ = some (.int .i64 0) from rfl)
              have rf0 := blk_frozen RW.out.br 0
              have rf1 := blk_frozen RW.out.br 1
              go_wp2_with (first | (go_at_call 71; refine (rin_any _ _ _ _).mono ?_; rintro e w' ⟨rfl, rfl⟩))
              refine bodyPost_ret (results_ct rfl _ _ (w.heap.size + 1) 99 _ (0, 0) _ rfl (blk_put (blk_put RW.out.br 0 _ rfl) 1 _ rfl) T.out rfl (by kernel_rfl)) rfl ?_
              exact ⟨⟨_, _, by rw [H4.out]; rfl⟩, below_set (below_set RW.out.bel (by simp)) (by simp)⟩
            · skip
              cases t1 : btw x.f2 1 64
              · have H4 := Aside0.mk (HBAD.out (fun h5 => by have hh := HBW.out.1 h5; rw [btw_iff.2 hh.2.1] at t1; cases t1))
                have r0 := (blk_cell RW.out.br 0).trans (show _ = some (.int .i64 0) from rfl)
                have r1 := (blk_cell RW.out.br 1).trans (show _ = some (.int .i64 0) from rfl)
                have rf0 := blk_frozen RW.out.br 0
                have rf1 := blk_frozen RW.out.br 1
                go_wp2_with (first | (go_at_call 71; refine (rin_any _ _ _ _).mono ?_; rintro e w' ⟨rfl, rfl⟩))
                refine bodyPost_ret (results_ct rfl _ _ (w.heap.size + 1) 99 _ (0, 0) _ rfl (blk_put (blk_put RW.out.br 0 _ rfl) 1 _ rfl) T.out rfl (by kernel_rfl)) rfl ?_
                exact ⟨⟨_, _, by rw [H4.out]; rfl⟩, below_set (below_set RW.out.bel (by simp)) (by simp)⟩
              · skip
                cases t2 : btw x.f1 en 64
                · have H4 := Aside0.mk (HBAD.out (fun h5 => by have hh := HBW.out.1 h5; rw [btw_iff.2 hh.2.2.1] at t2; cases t2))
                  have r0 := (blk_cell RW.out.br 0).trans (show _ = some (.int .i64 0) from rfl)
                  have r1 := (blk_cell RW.out.br 1).trans (show _ = some (.int .i64 0) from rfl)
                  have rf0 := blk_frozen RW.out.br 0
                  have rf1 := blk_frozen RW.out.br 1
                  go_wp2_with (first | (go_at_call 71; refine (rin_any _ _ _ _).mono ?_; rintro e w' ⟨rfl, rfl⟩))
                  refine bodyPost_ret (results_ct rfl _ _ (w.heap.size + 1) 99 _ (0, 0) _ rfl (blk_put (blk_put RW.out.br 0 _ rfl) 1 _ rfl) T.out rfl (by kernel_rfl)) rfl ?_
                  exact ⟨⟨_, _, by rw [H4.out]; rfl⟩, below_set (below_set RW.out.bel (by simp)) (by simp)⟩
                · skip
                  have bs := btw_true t1
                  have bs2 := btw_true t2
                  have he := HSC.out.1
                  cases t3 : decide (C.f < x.f1 + x.f2)
                  · have hok := HBW.out.2 ⟨btw_true t0, btw_true t1, btw_true t2, of_decide_eq_false t3⟩
                    have HN := HST.out
                    rw [hok, if_neg (by decide)] at HN
                    replace HN := Aside0.mk HN
                    clear hok
                    go_wp2_with (first | (go_at_call 71; refine (rin_any _ _ _ _).mono ?_; rintro e w' ⟨rfl, rfl⟩))
                    go_roundw
                    case rel => exact ⟨j + 1, x.f1 + x.f2, by omega, rfl, by go_num, ⟨⟨by omega, by omega⟩, HN.out⟩, RW⟩
                    case measure => simp [intOf]; omega
                  · have H4 := Aside0.mk (HBAD.out (fun hh => by have := (HBW.out.1 hh).2.2.2; exact this (of_decide_eq_true t3)))
                    have r0 := (blk_cell RW.out.br 0).trans (show _ = some (.int .i64 0) from rfl)
                    have r1 := (blk_cell RW.out.br 1).trans (show _ = some (.int .i64 0) from rfl)
                    have rf0 := blk_frozen RW.out.br 0
                    have rf1 := blk_frozen RW.out.br 1
                    go_wp2_with (first | (go_at_call 71; refine (rin_any _ _ _ _).mono ?_; rintro e w' ⟨rfl, rfl⟩))
                    refine bodyPost_ret (results_ct rfl _ _ (w.heap.size + 1) 99 _ (0, 0) _ rfl (blk_put (blk_put RW.out.br 0 _ rfl) 1 _ rfl) T.out rfl (by kernel_rfl)) rfl ?_
                    exact ⟨⟨_, _, by rw [H4.out]; rfl⟩, below_set (below_set RW.out.bel (by simp)) (by simp)⟩
          · have d1 : decide ((j : Int) < (C.ws.length : Int)) = false := decide_eq_false (by omega)
            have d1n : decide (j < C.ws.length) = false := decide_eq_false hlt
            have hsc : scanW C.p C.f 0 0 C.ws = none := by
              rw [HSC.out.2, List.drop_of_length_le (by omega)]
              rfl
            replace HE := Aside0.mk (HE.out.trans ⟨fun hh => hh.2, fun hh => ⟨hsc, hh⟩⟩)
            clear hsc HSC
            by_cases h6 : C.ks.length ≤ 6
            case neg =>
              have d6 : decide ((6 : Int) < (C.ks.length : Int)) = true := decide_eq_true (by omega)
              have d6n : decide (6 < C.ks.length) = true := decide_eq_true (by omega)
              have H4 := Aside0.mk (HNO.out (fun he => h6 (HE.out.1 he).1))
              have r0 := (blk_cell R.out.br 0).trans (show _ = some (.int .i64 0) from rfl)
              have r1 := (blk_cell R.out.br 1).trans (show _ = some (.int .i64 0) from rfl)
              have rf0 := blk_frozen R.out.br 0
              have rf1 := blk_frozen R.out.br 1
              go_wp2_with (first | (go_at_call 71; refine (rin_any _ _ _ _).mono ?_; rintro e w' ⟨rfl, rfl⟩))
              refine bodyPost_ret (results_ct rfl _ _ (w.heap.size + 1) 99 _ (0, 0) _ rfl (blk_put (blk_put R.out.br 0 _ rfl) 1 _ rfl) T.out rfl (by kernel_rfl)) rfl ?_
              exact ⟨⟨_, _, by rw [H4.out]; rfl⟩, below_set (below_set R.out.bel (by simp)) (by simp)⟩
            case pos =>
              have d6 : decide ((6 : Int) < (C.ks.length : Int)) = false := decide_eq_false (by omega)
              have d6n : decide (6 < C.ks.length) = false := decide_eq_false (by omega)
              replace HE := Aside0.mk (HE.out.trans ⟨fun hh => hh.2, fun hh => ⟨h6, hh⟩⟩)
              go_wp2_with (first | (go_at_call 71; refine (rin_any _ _ _ _).mono ?_; rintro e w' ⟨rfl, rfl⟩))
              clear d1 d1n d6 d6n b0 b1 b2 b3 b4 hj hlt
              go_loopw [7] (fun v7 wr => ∃ j : Nat, j ≤ C.ks.length ∧ v7 = .int .i64 j ∧ Aside0 ((∀ x ∈ C.ks, rB C.p x = true) ↔ ∀ x ∈ C.ks.drop j, rB C.p x = true) ∧ Aside0 (RC w wr #[.int .i64 C.p, .int .i64 C.f, .slice A2 C.ws.length c2, .slice A3 C.ks.length c3, .slice A4 C.ac.length c4])) (fun v7 _ => C.ks.length - (intOf v7).toNat)
              case atStart => exact ⟨0, by omega, rfl, ⟨Iff.rfl⟩, R⟩
              case round =>
                clear R
                obtain ⟨j, hj, rfl, HSC, R⟩ := hrel
                have b0 := (blk_cell R.out.bg 0).trans (show _ = some (.int .i64 C.p) from rfl)
                have b1 := (blk_cell R.out.bg 1).trans (show _ = some (.int .i64 C.f) from rfl)
                have b2 := (blk_cell R.out.bg 2).trans (show _ = some (.slice A2 C.ws.length c2) from rfl)
                have b3 := (blk_cell R.out.bg 3).trans (show _ = some (.slice A3 C.ks.length c3) from rfl)
                have b4 := (blk_cell R.out.bg 4).trans (show _ = some (.slice A4 C.ac.length c4) from rfl)
                by_cases hlt : j < C.ks.length
                · have d1 : decide ((j : Int) < (C.ks.length : Int)) = true := decide_eq_true (by omega)
                  have d1n : decide (j < C.ks.length) = true := decide_eq_true hlt
                  have hcs := at_T57 (Kd.C_below HX.out.k R.out.bel) (j : Int) (by omega) (by omega)
                  rw [show rd_T57 C.ks (j : Int) = C.ks[j] by simp [rd_T57, hlt], Int.toNat_natCast] at hcs
                  have HST := Aside0.mk (HSC.out.trans (drop_all hlt (fun x => rB C.p x = true)))
                  generalize C.ks[j] = x at hcs HST
                  obtain ⟨ad, rfl, e0, e1, e2, e3, e4, e5, e6, e7, e8, e9, e10⟩ := hcs
                  have hj0 : 0 ≤ (j : Int) := by omega
                  have hj1 : (j : Int) < C.ks.length := by omega
                  cases hr : rB C.p x
                  · have HR : Aside0 (rightB C.p x.f0 x.f1 x.f2 x.f3 x.f4 x.f5 x.f6 x.f7 x.f8 x.f9 x.f10 = false) := ⟨hr⟩
                    have H4 := Aside0.mk (HNO.out (fun he => by have h5 := (HST.out.1 (HE.out.1 he).1).1; rw [hr] at h5; cases h5))
                    clear hr
                    go_upto_region 20 with (first | fail)
                    go_still_tail 7, (by kernel_rfl)
                    repeat still_step
                    try refine wpStill_nil ?_
                    change wpList _ _ _ _ _ wr.drew
                    have R2 := Aside0.mk (R.out.far (below_drew (Below.refl _ _)))
                    clear e0 e1 e2 e3 e4 e5 e6 e7 e8 e9 e10 b0 b1 b2 b3 b4
                    go_wp2_with (first | (go_at_call 72; refine (rright_any _ _ _ _ _ _ _ _ _ _ _ _ _).mono ?_; rintro e w5 ⟨rfl, hb⟩; rw [HR.out]; have R5 := Aside0.mk (R2.out.far hb); have r0 := (blk_cell R5.out.br 0).trans (show _ = some (.int .i64 0) from rfl); have r1 := (blk_cell R5.out.br 1).trans (show _ = some (.int .i64 0) from rfl); have rf0 := blk_frozen R5.out.br 0; have rf1 := blk_frozen R5.out.br 1; clear hb))
                    refine bodyPost_ret (results_ct rfl _ _ (w.heap.size + 1) 99 _ (0, 0) _ rfl (blk_put (blk_put R5.out.br 0 _ rfl) 1 _ rfl) T.out rfl (by kernel_rfl)) rfl ?_
                    exact ⟨⟨_, _, by rw [H4.out]; rfl⟩, below_set (below_set R5.out.bel (by simp)) (by simp)⟩
                  · have HR : Aside0 (rightB C.p x.f0 x.f1 x.f2 x.f3 x.f4 x.f5 x.f6 x.f7 x.f8 x.f9 x.f10 = true) := ⟨hr⟩
                    have HN := Aside0.mk (HST.out.trans ⟨fun hh => hh.2, fun hh => ⟨hr, hh⟩⟩)
                    clear hr
                    go_upto_region 20 with (first | fail)
                    go_still_tail 7, (by kernel_rfl)
                    repeat still_step
                    try refine wpStill_nil ?_
                    change wpList _ _ _ _ _ wr.drew
                    have R2 := Aside0.mk (R.out.far (below_drew (Below.refl _ _)))
                    clear e0 e1 e2 e3 e4 e5 e6 e7 e8 e9 e10 b0 b1 b2 b3 b4
                    go_wp2_with (first | (go_at_call 72; refine (rright_any _ _ _ _ _ _ _ _ _ _ _ _ _).mono ?_; rintro e w5 ⟨rfl, hb⟩; rw [HR.out]; have R5 := Aside0.mk (R2.out.far hb); have r0 := (blk_cell R5.out.br 0).trans (show _ = some (.int .i64 0) from rfl); have r1 := (blk_cell R5.out.br 1).trans (show _ = some (.int .i64 0) from rfl); have rf0 := blk_frozen R5.out.br 0; have rf1 := blk_frozen R5.out.br 1; clear hb))
                    go_roundw
                    case rel => exact ⟨j + 1, by omega, by go_num, ⟨HN.out⟩, R5⟩
                    case measure => simp [intOf]; omega
                · have d1 : decide ((j : Int) < (C.ks.length : Int)) = false := decide_eq_false (by omega)
                  have d1n : decide (j < C.ks.length) = false := decide_eq_false hlt
                  have hsc : ∀ x ∈ C.ks, rB C.p x = true := by
                    rw [HSC.out, List.drop_of_length_le (by omega)]
                    intro x hx
                    cases hx
                  replace HE := Aside0.mk (HE.out.trans ⟨fun hh => hh.2, fun hh => ⟨hsc, hh⟩⟩)
                  clear hsc HSC
                  by_cases h7 : (C.ac.length : Int) = C.p
                  case neg =>
                    have d7 : ((C.ac.length : Int) == C.p) = false := beq_eq_false_iff_ne.mpr h7
                    have d7n : ((C.ac.length : Int) != C.p) = true := by rw [bne_iff_ne]; exact h7
                    have d7d : decide ((C.ac.length : Int) = C.p) = false := decide_eq_false h7
                    have H4 := Aside0.mk (HNO.out (fun he => h7 (HE.out.1 he).1))
                    clear h7
                    have r0 := (blk_cell R.out.br 0).trans (show _ = some (.int .i64 0) from rfl)
                    have r1 := (blk_cell R.out.br 1).trans (show _ = some (.int .i64 0) from rfl)
                    have rf0 := blk_frozen R.out.br 0
                    have rf1 := blk_frozen R.out.br 1
                    go_wp2_with (first | (go_at_call 71; refine (rin_any _ _ _ _).mono ?_; rintro e w' ⟨rfl, rfl⟩))
                    refine bodyPost_ret (results_ct rfl _ _ (w.heap.size + 1) 99 _ (0, 0) _ rfl (blk_put (blk_put R.out.br 0 _ rfl) 1 _ rfl) T.out rfl (by kernel_rfl)) rfl ?_
                    exact ⟨⟨_, _, by rw [H4.out]; rfl⟩, below_set (below_set R.out.bel (by simp)) (by simp)⟩
                  case pos =>
                    have d7 : ((C.ac.length : Int) == C.p) = true := beq_iff_eq.mpr h7
                    have d7n : ((C.ac.length : Int) != C.p) = false := by simp [h7]
                    replace HE := Aside0.mk (HE.out.trans ⟨fun hh => hh.2, fun hh => ⟨h7, hh⟩⟩)
                    have d7d : decide ((C.ac.length : Int) = C.p) = true := decide_eq_true h7
                    clear h7
                    go_wp2_with (first | (go_at_call 71; refine (rin_any _ _ _ _).mono ?_; rintro e w' ⟨rfl, rfl⟩))
                    clear d7 d7n d7d d1 d1n b0 b1 b2 b3 b4 hj hlt
                    go_loopw [9] (fun v9 wr => ∃ j : Nat, j ≤ C.ac.length ∧ v9 = .int .i64 j ∧ Aside0 ((∀ x ∈ C.ac, btw x 0 2 = true) ↔ ∀ x ∈ C.ac.drop j, btw x 0 2 = true) ∧ Aside0 (RC w wr #[.int .i64 C.p, .int .i64 C.f, .slice A2 C.ws.length c2, .slice A3 C.ks.length c3, .slice A4 C.ac.length c4])) (fun v9 _ => C.ac.length - (intOf v9).toNat)
                    case atStart => exact ⟨0, by omega, rfl, ⟨Iff.rfl⟩, R⟩
                    case round =>
                      clear R
                      obtain ⟨j, hj, rfl, HSC, R⟩ := hrel
                      have b0 := (blk_cell R.out.bg 0).trans (show _ = some (.int .i64 C.p) from rfl)
                      have b1 := (blk_cell R.out.bg 1).trans (show _ = some (.int .i64 C.f) from rfl)
                      have b2 := (blk_cell R.out.bg 2).trans (show _ = some (.slice A2 C.ws.length c2) from rfl)
                      have b3 := (blk_cell R.out.bg 3).trans (show _ = some (.slice A3 C.ks.length c3) from rfl)
                      have b4 := (blk_cell R.out.bg 4).trans (show _ = some (.slice A4 C.ac.length c4) from rfl)
                      by_cases hlt : j < C.ac.length
                      · have d1 : decide ((j : Int) < (C.ac.length : Int)) = true := decide_eq_true (by omega)
                        have d1n : decide (j < C.ac.length) = true := decide_eq_true hlt
                        obtain ⟨ad, rfl, hcell0⟩ := Kd.at_int (Kd.C_below HX.out.a R.out.bel) (j : Int) (by omega) (by omega)
                        rw [rd_get hlt, Int.toNat_natCast] at hcell0
                        have HST := Aside0.mk (HSC.out.trans (drop_all hlt (fun x => btw x 0 2 = true)))
                        generalize C.ac[j] = x at hcell0 HST
                        have hj0 : 0 ≤ (j : Int) := by omega
                        have hj1 : (j : Int) < C.ac.length := by omega
                        cases hr : btw x 0 2
                        · have H4 := Aside0.mk (HNO.out (fun he => by have h5 := (HST.out.1 (HE.out.1 he)).1; rw [hr] at h5; cases h5))
                          have r0 := (blk_cell R.out.br 0).trans (show _ = some (.int .i64 0) from rfl)
                          have r1 := (blk_cell R.out.br 1).trans (show _ = some (.int .i64 0) from rfl)
                          have rf0 := blk_frozen R.out.br 0
                          have rf1 := blk_frozen R.out.br 1
                          go_wp2_with (first | (go_at_call 71; refine (rin_any _ _ _ _).mono ?_; rintro e w' ⟨rfl, rfl⟩))
                          refine bodyPost_ret (results_ct rfl _ _ (w.heap.size + 1) 99 _ (0, 0) _ rfl (blk_put (blk_put R.out.br 0 _ rfl) 1 _ rfl) T.out rfl (by kernel_rfl)) rfl ?_
                          exact ⟨⟨_, _, by rw [H4.out]; rfl⟩, below_set (below_set R.out.bel (by simp)) (by simp)⟩
                        · have HN := Aside0.mk (HST.out.trans ⟨fun hh => hh.2, fun hh => ⟨hr, hh⟩⟩)
                          go_wp2_with (first | (go_at_call 71; refine (rin_any _ _ _ _).mono ?_; rintro e w' ⟨rfl, rfl⟩))
                          go_roundw
                          case rel => exact ⟨j + 1, by omega, by go_num, ⟨HN.out⟩, R⟩
                          case measure => simp [intOf]; omega
                      · have d1 : decide ((j : Int) < (C.ac.length : Int)) = false := decide_eq_false (by omega)
                        have d1n : decide (j < C.ac.length) = false := decide_eq_false hlt
                        have hsc : ∀ x ∈ C.ac, btw x 0 2 = true := by
                          rw [HSC.out, List.drop_of_length_le (by omega)]
                          intro x hx
                          cases hx
                        have h0 : ec = 0 := HEC.out.symm.trans (HE.out.2 hsc)
                        clear hsc HSC
                        have H4 := Aside0.mk h0
                        clear h0
                        have r0 := (blk_cell R.out.br 0).trans (show _ = some (.int .i64 0) from rfl)
                        have r1 := (blk_cell R.out.br 1).trans (show _ = some (.int .i64 0) from rfl)
                        have rf0 := blk_frozen R.out.br 0
                        have rf1 := blk_frozen R.out.br 1
                        go_wp2_with (first | (go_at_call 71; refine (rin_any _ _ _ _).mono ?_; rintro e w' ⟨rfl, rfl⟩))
                        refine bodyPost_ret (results_ct rfl _ _ (w.heap.size + 1) 99 _ (0, 0) _ rfl (blk_put (blk_put R.out.br 0 _ rfl) 1 _ rfl) T.out rfl (by kernel_rfl)) rfl ?_
                        exact ⟨⟨_, _, by rw [H4.out]; rfl⟩, below_set (below_set R.out.bel (by simp)) (by simp)⟩
/-- May a config be? -/
def mayB (C : Cfg) : Bool := (chk C).e == 0
theorem rmay_any {C : Cfg} {A2 A3 A4 : Option Addr} {c2 c3 c4 : Nat} {w : World} (h : CX w C A2 c2 A3 c3 A4 c4) (hw : C.ws.length ≤ 1000) (hk : C.ks.length ≤ 1000) (ha : C.ac.length ≤ 1000) :
    Calls Tryd.prog 26 #[.agg #[.int .i64 C.p, .int .i64 C.f, .slice A2 C.ws.length c2, .slice A3 C.ks.length c3, .slice A4 C.ac.length c4]] w fun e w' => e = .returned (.bool (mayB C)) ∧ Below w.heap.size w w' := by
  have HC := Aside0.mk (rcheck_any (h.below (below_alloc (Below.refl w.heap.size w) (.cells #[.int .i64 C.p, .int .i64 C.f, .slice A2 C.ws.length c2, .slice A3 C.ks.length c3, .slice A4 C.ac.length c4] 26))) hw hk ha)
  unfold mayB
  generalize (chk C).e = ec at HC ⊢
  clear h
  go_enter Tryd.func26, Tryd.ntmps26
  go_wp2_with (first | (go_at_call 56; refine HC.out.mono ?_; rintro e w2 ⟨⟨a, b, rfl⟩, hb⟩; have HB := Aside0.mk (below_step (below_alloc (Below.refl w.heap.size w) _) hb); clear hb))
  go_ret
  exact ⟨rfl, below_alloc HB.out _⟩
end Go.Proofs.YtdebbanloopcgaaDoor.Cf
