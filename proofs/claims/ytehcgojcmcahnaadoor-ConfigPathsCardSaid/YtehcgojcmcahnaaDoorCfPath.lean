/- Layer 4 (config): config.Path: the walk. -/
import Derived.Test.YtehcgojcmcahnaaDoorCfPw
set_option linter.unusedVariables false
set_option linter.unusedSimpArgs false
namespace Go.Proofs.YtehcgojcmcahnaaDoor.Cf
open Go.RowKit Go.Maps Go.Proofs.YtehcgojcmcahnaaDoorW.PrintWords Go.Proofs.YtehcgojcmcahnaaDoorW.PrintLast Go.Proofs.YtehcgojcmcahnaaDoorW.PrintMore Go.Proofs.YtehcgojcmcahnaaDoor.Cz Go.Proofs.YtehcgojcmcahnaaDoor.PConfigSame
attribute [local go_sem] max2_int min2_int max_two min_two max_three min_three max_four min_four Tryd.underlying26 Tryd.underlying35 Tryd.underlying30
theorem chk_e4 {C : Cfg} (h : (chk C).e ≠ 0) : (chk C).e = 4 := by
  unfold chk at h ⊢
  cases h1 : Cz.hd C.p C.f C.ws.length
  · rw [h1] at h
    cases h2 : ls C
    · rw [h2] at h
      exact absurd rfl h
    · rfl
  · rfl
theorem path_no {C : Cfg} {a b : Int} (h : ¬ ((chk C).e = 0 ∧ (0 ≤ a ∧ a ≤ C.p - 1) ∧ (0 ≤ b ∧ b ≤ C.p - 1))) : pathB C a b = false := by
  classical
  unfold pathB
  exact decide_eq_false fun hh => h ⟨hh.1, hh.2.1, hh.2.2.1⟩
theorem path_is {C : Cfg} {a b : Int} {S : Int → Bool} (h : (chk C).e = 0) (ha : 0 ≤ a ∧ a ≤ C.p - 1) (hb : 0 ≤ b ∧ b ≤ C.p - 1) (hf : BF C.ks a [] S) : S b = pathB C a b := by
  classical
  unfold pathB
  have := hf.done b
  cases hs : S b
  · exact (decide_eq_false fun hh => by
      rw [this.2 hh.2.2.2] at hs
      cases hs).symm
  · exact (decide_eq_true ⟨h, ha, hb, this.1 hs⟩).symm
theorem one_row (W : World) (base : Nat) (z : Int) (hb : base ≤ W.heap.size) : Kd.Q (Kd.int .i64) 3 (W.alloc (.cells #[.int .i64 z] 3)) base (fun _ => True) (.slice (some ⟨W.heap.size, 0, none⟩) 1 1) [z] :=
  Kd.Q_of_R (Kd.R_of_own (xs := [z]) (own_lit_of (enc := Value.int .i64) W base 3 [z] hb (by simp)) (fun _ _ => trivial))
set_option maxHeartbeats 16000000 in
set_option maxRecDepth 100000 in
theorem path_any {C : Cfg} {A2 A3 A4 : Option Addr} {c2 c3 c4 : Nat} {w : World} (h : CX w C A2 c2 A3 c3 A4 c4) (hg : LG w) (hk : C.ks.length ≤ 1000) (ha : C.ac.length ≤ 1000) (hw : C.ws.length ≤ 1000) (a b : Int) :
    Calls Tryd.prog 15 #[.agg #[.int .i64 C.p, .int .i64 C.f, .slice A2 C.ws.length c2, .slice A3 C.ks.length c3, .slice A4 C.ac.length c4], .int .i64 a, .int .i64 b] w fun e w' => e = .returned (.bool (pathB C a b)) ∧ Below w.heap.size w w' := by
  have HX := Aside0.mk h
  have HG := Aside0.mk hg
  have HC := Aside0.mk (fun w1 (hb1 : Below w.heap.size w w1) => check_any (h.below hb1) (hg.below hb1) hk ha hw)
  have B1 := Aside0.mk (And.intro (blk_new w (.cells #[.int .i64 C.p, .int .i64 C.f, .slice A2 C.ws.length c2, .slice A3 C.ks.length c3, .slice A4 C.ac.length c4] 26)) (below_alloc (Below.refl w.heap.size w) (.cells #[.int .i64 C.p, .int .i64 C.f, .slice A2 C.ws.length c2, .slice A3 C.ks.length c3, .slice A4 C.ac.length c4] 26)))
  clear h hg
  have b10 := (blk_cell B1.out.1 0).trans (show _ = some (.int .i64 C.p) from rfl)
  have b11 := (blk_cell B1.out.1 1).trans (show _ = some (.int .i64 C.f) from rfl)
  have b12 := (blk_cell B1.out.1 2).trans (show _ = some (.slice A2 C.ws.length c2) from rfl)
  have b13 := (blk_cell B1.out.1 3).trans (show _ = some (.slice A3 C.ks.length c3) from rfl)
  have b14 := (blk_cell B1.out.1 4).trans (show _ = some (.slice A4 C.ac.length c4) from rfl)
  by_cases he : (chk C).e = 0
  case neg =>
    rw [path_no (fun hh => he hh.1)]
    have h4 := chk_e4 he
    rw [h4] at HC
    clear he h4
    go_enter Tryd.func15, Tryd.ntmps15
    go_wp2_with (first | (go_at_call 12; refine (HC.out _ B1.out.2).mono ?_; rintro e w2 ⟨rfl, hb⟩; have B2 := Aside0.mk (below_step B1.out.2 hb); clear hb))
    go_ret
    exact ⟨rfl, below_alloc B2.out _⟩
  case pos =>
    have hp := chk_p he
    have hpw : wrap64 (C.p - 1) = C.p - 1 := by unfold wrap64; omega
    have HKR := Aside0.mk (chk_k he)
    have HE := Aside0.mk he
    rw [he] at HC
    clear he
    cases hba : btw a 0 (C.p - 1)
    · rw [path_no (fun hh => absurd (show btw a 0 (C.p - 1) = true from decide_eq_true hh.2.1) (by rw [hba]; decide))]
      go_enter Tryd.func15, Tryd.ntmps15
      go_upto_region 2 with (first | (go_at_call 12; refine (HC.out _ B1.out.2).mono ?_; rintro e w2 ⟨rfl, hb⟩; have B2 := Aside0.mk (And.intro (blk_below B1.out.1 hb) (below_step B1.out.2 hb)); clear hb))
      have B3 := And.intro (blk_alloc B2.out.1 (.cells #[.int .i64 (chk C).a, .int .i64 (chk C).b] 30)) (below_alloc B2.out.2 (.cells #[.int .i64 (chk C).a, .int .i64 (chk C).b] 30))
      clear HC B1 B2 b10 b11 b12 b13 b14
      revert B3
      generalize (w2.alloc (.cells #[.int .i64 (chk C).a, .int .i64 (chk C).b] 30)) = W3
      intro B3
      have b0 := (blk_cell B3.1 0).trans (show _ = some (.int .i64 C.p) from rfl)
      replace B3 := Aside0.mk B3
      go_wp2_with (first | (go_at_call 31; refine (between_any _ _ _ _).mono ?_; rintro e w' ⟨rfl, rfl⟩))
      go_ret
      exact ⟨rfl, B3.out.2⟩
    · cases hbb : btw b 0 (C.p - 1)
      · rw [path_no (fun hh => absurd (show btw b 0 (C.p - 1) = true from decide_eq_true hh.2.2) (by rw [hbb]; decide))]
        go_enter Tryd.func15, Tryd.ntmps15
        go_upto_region 2 with (first | (go_at_call 12; refine (HC.out _ B1.out.2).mono ?_; rintro e w2 ⟨rfl, hb⟩; have B2 := Aside0.mk (And.intro (blk_below B1.out.1 hb) (below_step B1.out.2 hb)); clear hb))
        have B3 := And.intro (blk_alloc B2.out.1 (.cells #[.int .i64 (chk C).a, .int .i64 (chk C).b] 30)) (below_alloc B2.out.2 (.cells #[.int .i64 (chk C).a, .int .i64 (chk C).b] 30))
        clear HC B1 B2 b10 b11 b12 b13 b14
        revert B3
        generalize (w2.alloc (.cells #[.int .i64 (chk C).a, .int .i64 (chk C).b] 30)) = W3
        intro B3
        have b0 := (blk_cell B3.1 0).trans (show _ = some (.int .i64 C.p) from rfl)
        replace B3 := Aside0.mk B3
        go_wp2_with (first | (go_at_call 31; refine (between_any _ _ _ _).mono ?_; rintro e w' ⟨rfl, rfl⟩))
        go_ret
        exact ⟨rfl, B3.out.2⟩
      · go_enter Tryd.func15, Tryd.ntmps15
        go_upto_region 2 with (first | (go_at_call 12; refine (HC.out _ B1.out.2).mono ?_; rintro e w2 ⟨rfl, hb⟩; have B2 := Aside0.mk (And.intro (blk_below B1.out.1 hb) (below_step B1.out.2 hb)); clear hb))
        have B3 := And.intro (blk_alloc B2.out.1 (.cells #[.int .i64 (chk C).a, .int .i64 (chk C).b] 30)) (below_alloc B2.out.2 (.cells #[.int .i64 (chk C).a, .int .i64 (chk C).b] 30))
        clear HC B1 B2 b10 b11 b12 b13 b14
        revert B3
        generalize (w2.alloc (.cells #[.int .i64 (chk C).a, .int .i64 (chk C).b] 30)) = W3
        intro B3
        have b0 := (blk_cell B3.1 0).trans (show _ = some (.int .i64 C.p) from rfl)
        replace B3 := Aside0.mk B3
        go_upto_region 4 with (first | (go_at_call 31; refine (between_any _ _ _ _).mono ?_; rintro e w' ⟨rfl, rfl⟩))
        have ra := btw_true hba
        have rb := btw_true hbb
        have RA := Aside0.mk (And.intro ra rb)
        clear hba hbb hpw b0
        obtain ⟨w4, hins, hmb, hgr⟩ := (MB.made W3).store (by unfold maxLen; omega) (i := a) (by omega)
        have B4 := Aside0.mk (And.intro (blk_grown (blk_alloc B3.out.1 (.map #[] 0)) hgr (by
          intro e
          injection e with e
          have := blk_lt B3.out.1
          omega)) (below_grown (below_alloc B3.out.2 (.map #[] 0)) hgr (fun k hk => by cases hk; exact B3.out.2.size)))
        replace hmb := Aside0.mk hmb
        have hsz := Aside0.mk B3.out.2.size
        clear hgr
        have hmm := @run_makeMap Tryd.prog
        go_wp2
        have P6 : PS w (w4.alloc (.cells #[.int .i64 a] 3)) w.heap.size W3.heap.size 1 (upd (fun _ => false) a) (.slice (some ⟨w4.heap.size, 0, none⟩) 1 1) [a] #[.int .i64 C.p, .int .i64 C.f, .slice A2 C.ws.length c2, .slice A3 C.ks.length c3, .slice A4 C.ac.length c4] :=
          ⟨blk_alloc B4.out.1 _, hmb.out.below (below_alloc (Below.refl _ _) _), one_row _ _ _ B4.out.2.size, below_alloc B4.out.2 _, hsz.out⟩
        have U0 := uns_upd (S := fun _ => false) (k := a) (by omega) rfl
        have BF0 := BF.start C.ks a
        clear hmb B4 B3 hmm hins
        revert P6
        generalize (w4.alloc (.cells #[.int .i64 a] 3)) = W5
        generalize W3.heap.size = mb
        generalize (.slice (some ⟨w4.heap.size, 0, none⟩) 1 1 : Value) = rv
        intro P6
        replace P6 := Aside0.mk P6
        replace BF0 := Aside0.mk BF0
        have U1 : uns (upd (fun _ => false) a) = 3 := by
          have : uns (fun _ => false) = 4 := rfl
          omega
        clear U0
        go_loopg [10] 7 (fun k v10 wr => ∃ (q : List Int) (S : Int → Bool) (n : Nat), Aside0 (PS w wr w.heap.size mb n S v10 q #[.int .i64 C.p, .int .i64 C.f, .slice A2 C.ws.length c2, .slice A3 C.ks.length c3, .slice A4 C.ac.length c4]) ∧ Aside0 (BF C.ks a q S) ∧ Aside0 (2 * uns S + q.length ≤ k ∧ 2 * uns S + q.length ≤ 7 ∧ n + uns S ≤ 4))
        case atStart => exact ⟨[a], _, 1, P6, BF0, ⟨by rw [U1]; simp, by rw [U1]; simp, by rw [U1]; omega⟩⟩
        case round =>
          obtain ⟨q, S, n, HP, HB, HM⟩ := hrel
          clear P6 BF0 U1 W5
          cases q with
          | nil =>
            obtain ⟨A, c, rfl, _⟩ := Kd.Q_slice HP.out.qr
            have hlk := HP.out.mp.lookup (i := b) (by have := RA.out; omega)
            go_wp2
            go_ret
            exact ⟨congrArg (fun z => Ending.returned (.bool z)) (path_is HE.out RA.out.1 RA.out.2 HB.out), HP.out.bel⟩
          | cons h t =>
            obtain ⟨A, c, rfl, hcap⟩ := Kd.Q_slice HP.out.qr
            obtain ⟨m, hm⟩ : ∃ m, (h :: t).length = m := ⟨_, rfl⟩
            have hm0 : 0 < m := by rw [← hm]; simp
            have dm : decide (0 < (m : Int)) = true := decide_eq_true (by omega)
            have dmn : decide (0 < m) = true := decide_eq_true hm0
            rw [hm] at HP
            have b0 := (blk_cell HP.out.bg 0).trans (show _ = some (.int .i64 C.p) from rfl)
            have b3 := (blk_cell HP.out.bg 3).trans (show _ = some (.slice A3 C.ks.length c3) from rfl)
            rw [hm]
            go_wp2
            go_loopw [10, 49] (fun v10 v49 wq => ∃ (j : Nat) (t : List Int) (S : Int → Bool) (n : Nat), v49 = .int .i64 j ∧ j ≤ C.ks.length ∧ Aside0 (PS w wq w.heap.size mb n S v10 (h :: t) #[.int .i64 C.p, .int .i64 C.f, .slice A2 C.ws.length c2, .slice A3 C.ks.length c3, .slice A4 C.ac.length c4]) ∧ Aside0 (BI C.ks a h t S j) ∧ Aside0 (2 * uns S + (t.length + 1) ≤ gk ∧ 2 * uns S + (t.length + 1) ≤ 7 ∧ n + uns S ≤ 4)) (fun _ v49 _ => C.ks.length - (intOf v49).toNat)
            case atStart => exact ⟨0, t, S, n, rfl, by omega, HP, ⟨BI.start HB.out⟩, ⟨by simpa using HM.out.1, by simpa using HM.out.2.1, HM.out.2.2⟩⟩
            case round =>
              clear HP HB HM hm dm dmn hm0 b0 b3 hcap
              obtain ⟨j, t, S, n, rfl, hj, HP, HB, HM⟩ := hrel
              obtain ⟨g, off, c, rfl, hgb, hglt, hgc⟩ := Kd.Q_form HP.out.qr (by simp)
              have hcap := (Kd.Q_reads' HP.out.qr).2.1
              obtain ⟨m, hm⟩ : ∃ m, (h :: t).length = m := ⟨_, rfl⟩
              have hm0 : 0 < m := by rw [← hm]; simp
              have HMT : Aside0 (m = t.length + 1) := ⟨by rw [← hm]; simp⟩
              rw [hm] at HP hcap
              rw [hm]
              clear hm
              by_cases hlt : j < C.ks.length
              · have d1 : decide ((j : Int) < (C.ks.length : Int)) = true := decide_eq_true (by omega)
                have d1n : decide (j < C.ks.length) = true := decide_eq_true hlt
                have hcs := at_T35 (Kd.C_below HX.out.k HP.out.bel) (j : Int) (by omega) (by omega)
                rw [show rd_T35 C.ks (j : Int) = C.ks[j] by simp [rd_T35, hlt], Int.toNat_natCast] at hcs
                have HR := Aside0.mk (rB_range (HKR.out.2 _ (List.getElem_mem hlt)))
                have HSK := Aside0.mk (fun hx => HB.out.skip hlt hx)
                have HPU := Aside0.mk (fun hx => HB.out.push hlt hx)
                generalize C.ks[j] = x at hcs HR HSK HPU
                obtain ⟨ad, rfl, e0, e1, e2, e3, e4, e5, e6, e7, e8, e9, e10⟩ := hcs
                have hj0 : 0 ≤ (j : Int) := by omega
                have hj1 : (j : Int) < C.ks.length := by omega
                go_upto_region 11 with (first | fail)
                have HP2 := HP.out.far (below_alloc (Below.refl wr.heap.size wr) (.cells #[.int .i64 x.f0, .int .i64 x.f1, .int .i64 x.f2, .int .i64 x.f3, .int .i64 x.f4, .int .i64 x.f5, .int .i64 x.f6, .int .i64 x.f7, .int .i64 x.f8, .int .i64 x.f9, .int .i64 x.f10] 35))
                have hk0 := blk_new wr (.cells #[.int .i64 x.f0, .int .i64 x.f1, .int .i64 x.f2, .int .i64 x.f3, .int .i64 x.f4, .int .i64 x.f5, .int .i64 x.f6, .int .i64 x.f7, .int .i64 x.f8, .int .i64 x.f9, .int .i64 x.f10] 35)
                clear HP e0 e1 e2 e3 e4 e5 e6 e7 e8 e9 e10
                revert HP2 hk0
                generalize (wr.alloc (.cells #[.int .i64 x.f0, .int .i64 x.f1, .int .i64 x.f2, .int .i64 x.f3, .int .i64 x.f4, .int .i64 x.f5, .int .i64 x.f6, .int .i64 x.f7, .int .i64 x.f8, .int .i64 x.f9, .int .i64 x.f10] 35)) = W7
                generalize wr.heap.size = kb
                intro HP2 hk0
                have k1 := (blk_cell hk0 1).trans (show _ = some (.int .i64 x.f1) from rfl)
                have k2 := (blk_cell hk0 2).trans (show _ = some (.int .i64 x.f2) from rfl)
                have hm0' : (0 : Int) < m := by omega
                obtain ⟨ad', ea, hrow0⟩ := Kd.at_int (Kd.Q_reads' HP2.qr).2.2 0 (Int.le_refl _) (by simp)
                cases ea
                have hrow : W7.cell? ⟨g, off, none⟩ = some (.int .i64 h) := hrow0
                have hlook := fun k => (HP2.mp.below (pw_below_drewN (Below.refl _ _) k)).lookup (i := x.f2) (by have := HR.out; omega)
                clear hrow0
                have HP2 := Aside0.mk HP2
                have HK0 := Aside0.mk hk0
                clear hk0
                by_cases h1 : x.f1 = h
                · cases hS : S x.f2
                  · rw [hS] at hlook
                    go_quiet (fail)
                    have HP3 := HP2.out.far (pw_below_drewN (Below.refl _ _) nq)
                    obtain ⟨w8, hins, HP8, hgr⟩ := HP3.store (by have := HM.out; unfold maxLen; omega) (i := x.f2) (by have := HR.out; omega)
                    have hkm : kb ≠ mb := by
                      rintro rfl
                      obtain ⟨es, clock, hmm⟩ := HP2.out.mp.ismap
                      have := HK0.out
                      rw [hmm] at this
                      cases this
                    have hk8 := blk_grown (blk_drewN HK0.out nq) hgr (by
                      intro e
                      injection e with e
                      exact hkm e)
                    have k28 := (blk_cell hk8 2).trans (show _ = some (.int .i64 x.f2) from rfl)
                    replace HP8 := Aside0.mk HP8
                    clear hgr hk8 hkm HP3 k1 hrow hlook
                    go_wp2_with (first | ((with_reducible refine gate_builtin (b := .append) (xs := #[.tmp 69, .tmp 72]) rfl ?_); at_builtin; refine Kd.Q_append (Kd.int .i64) (w0 := w) w.heap.size rfl (.tmp 69) (.tmp 72) 24 3 (.int .i64 0) 8 rfl Tryd.underlying24 info3 rfl (by decide) (by omega) (.slice (some ⟨g, off, none⟩) m c) (h :: t) x.f2 [.int .i64 x.f2] (fun _ => True) (fun _ => False) rfl rfl ?aP (fun _ hk => hk.elim) ?aF HP8.out.qr HP8.out.bel ?aS ?aL ?_; (case aP => exact rfl); (case aF => exact (fun _ _ => trivial)); (case aS => exact HP8.out.bel.size); (case aL => have := HM.out; simp only [List.length_cons]; omega); intro v9 w9 ho hb hg9 hat; have HP9 := Aside0.mk (HP8.out.pushed ho hb hg9); clear ho hb hg9 hat))
                    have HUU := uns_upd (S := S) (k := x.f2) (by have := HR.out; omega) hS
                    go_roundw
                    case rel => exact ⟨j + 1, t ++ [x.f2], upd S x.f2, n + 1, by go_num, by omega, HP9, ⟨HPU.out h1⟩, ⟨by have := HM.out; rw [List.length_append]; simp only [List.length_cons, List.length_nil]; omega, by have := HM.out; rw [List.length_append]; simp only [List.length_cons, List.length_nil]; omega, by have := HM.out; omega⟩⟩
                    case measure => simp [intOf]; omega
                  · rw [hS] at hlook
                    go_quiet (fail)
                    go_wp2
                    go_roundw
                    case rel => exact ⟨j + 1, t, S, n, by go_num, by omega, ⟨HP2.out.far (pw_below_drewN (Below.refl _ _) _)⟩, ⟨HSK.out (by exact fun _ => hS)⟩, HM⟩
                    case measure => simp [intOf]; omega
                · have h1b : decide (x.f1 = h) = false := decide_eq_false h1
                  go_quiet (fail)
                  go_wp2
                  go_roundw
                  case rel => exact ⟨j + 1, t, S, n, by go_num, by omega, ⟨HP2.out.far (pw_below_drewN (Below.refl _ _) _)⟩, ⟨HSK.out (by exact fun e => absurd e h1)⟩, HM⟩
                  case measure => simp [intOf]; omega
              · have d1 : decide ((j : Int) < (C.ks.length : Int)) = false := decide_eq_false (by omega)
                have d1n : decide (j < C.ks.length) = false := decide_eq_false hlt
                have hm1 : (1 : Int) ≤ m := by omega
                have HBP := HB.out.pop (by omega)
                have HPC := HP.out.cut (by simp)
                by_cases hc : c = 1
                · subst hc
                  rw [if_pos rfl] at HPC
                  have hm1x : m = 1 := by omega
                  subst hm1x
                  go_wp2
                  go_roundg (gk - 1)
                  case measure => have := HM.out; omega
                  case rel => exact ⟨t, S, n, ⟨HPC⟩, ⟨HBP⟩, ⟨by have := HM.out; omega, by have := HM.out; omega, HM.out.2.2⟩⟩
                · rw [if_neg hc] at HPC
                  go_wp2
                  go_roundg (gk - 1)
                  case measure => have := HM.out; omega
                  case rel => exact ⟨t, S, n, ⟨HPC⟩, ⟨HBP⟩, ⟨by have := HM.out; omega, by have := HM.out; omega, HM.out.2.2⟩⟩
end Go.Proofs.YtehcgojcmcahnaaDoor.Cf
