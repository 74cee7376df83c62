/- Layer 13 (window): Whose. -/
import Derived.Test.YtmmkbgilcggkkaaDoorWt
set_option linter.unusedVariables false
set_option linter.unusedSimpArgs false
namespace Go.Proofs.YtmmkbgilcggkkaaDoor.Wn
open Go Go.RowKit Go.Shelf Go.Proofs.YtmmkbgilcggkkaaDoorW.PrintWords Go.Proofs.YtmmkbgilcggkkaaDoorW.PrintLast Go.Proofs.YtmmkbgilcggkkaaDoorW.PrintMore Go.Proofs.YtmmkbgilcggkkaaDoor.Cz Go.Proofs.YtmmkbgilcggkkaaDoor.PWindowCalls Go.Proofs.YtmmkbgilcggkkaaDoor.Cf Go.Proofs.YtmmkbgilcggkkaaDoor.Sat
attribute [local go_sem] Tryd.underlying26 Tryd.underlying41
/-- Whose a phase is. -/
def atW (ph : Int) : List S41 → Option Int
  | [] => none
  | x :: t => if x.f1 ≤ ph ∧ ph < x.f1 + x.f2 then some x.f0 else atW ph t
theorem atW_step (ph : Int) (xs : List S41) (j : Nat) (h : j < xs.length) : atW ph (xs.drop j) = if xs[j].f1 ≤ ph ∧ ph < xs[j].f1 + xs[j].f2 then some xs[j].f0 else atW ph (xs.drop (j + 1)) := by
  rw [List.drop_eq_getElem_cons h]
  rfl
/-- Whose a tick is. -/
def whoN (C : Cfg) (now : Int) : Option Int := if okB C = true then atW (phase C now) C.ws else none
set_option maxHeartbeats 8000000 in
set_option maxRecDepth 100000 in
theorem whose_any {C : Cfg} {A2 A3 A4 : Option Addr} {c2 c3 c4 : Nat} {w : World} (hX : CX w C A2 c2 A3 c3 A4 c4) (hg : LG w) (lk : C.ks.length ≤ 1000) (la : C.ac.length ≤ 1000) (lw : C.ws.length ≤ 1000) (now : Int) :
    Calls Tryd.prog 14 #[.agg #[.int .i64 C.p, .int .i64 C.f, .slice A2 C.ws.length c2, .slice A3 C.ks.length c3, .slice A4 C.ac.length c4], .int .i64 now] w fun e w' => e = .returned (.tuple #[.int .i64 ((whoN C now).getD 0), .bool (whoN C now).isSome]) ∧ Below w.heap.size w w' := by
  have hb1 := below_alloc (Below.refl w.heap.size w) (.cells #[.int .i64 C.p, .int .i64 C.f, .slice A2 C.ws.length c2, .slice A3 C.ks.length c3, .slice A4 C.ac.length c4] 26)
  have HC := Aside0.mk (may_any (hX.below hb1) (hg.below hb1) lk la lw)
  have HX := Aside0.mk hX.w
  have PX := Aside0.mk (fun w => phase_any now C.f w)
  have hph : phase C now = cut now % fr C.f := rfl
  rw [← hph] at PX
  clear hph hX hg hb1
  have hpb : okB C = true → (0 ≤ phase C now ∧ phase C now < C.f) ∧ C.f ≤ 64 := fun h => by
    have h1 := ok_hd h
    unfold phase
    rw [fr_in h1.2.1.1 h1.2.1.2]
    exact ⟨⟨Int.emod_nonneg _ (by omega), Int.emod_lt_of_pos _ (by omega)⟩, by omega⟩
  have HWN := Aside0.mk (fun h => ok_win (C := C) h)
  have HV : Aside0 (whoN C now = if okB C = true then atW (phase C now) C.ws else none) := ⟨rfl⟩
  generalize whoN C now = res at HV ⊢
  obtain ⟨ok, hok⟩ : ∃ ok, okB C = ok := ⟨_, rfl⟩
  rw [hok] at HC HV hpb HWN
  clear hok
  cases ok
  · have HR : Aside0 (res = none) := ⟨HV.out⟩
    go_enter Tryd.func14, Tryd.ntmps14
    go_wp2_with (first | (go_at_call 28; refine HC.out.mono ?_; rintro e w2 ⟨rfl, hb⟩; have HB := Aside0.mk (below_step (below_alloc (Below.refl w.heap.size w) _) hb); clear hb))
    refine bodyPost_ret (results_tmp2 rfl _ _ _) rfl ?_
    rw [HR.out]
    exact ⟨rfl, HB.out⟩
  · have HR : Aside0 (res = atW (phase C now) C.ws) := ⟨HV.out⟩
    obtain ⟨⟨hp0, hp1⟩, hf1⟩ := hpb rfl
    replace HWN := Aside0.mk (HWN.out rfl)
    clear HV
    generalize phase C now = ph at PX HR hp0 hp1
    go_enter Tryd.func14, Tryd.ntmps14
    go_wp2_with (first | (go_at_call 28; refine HC.out.mono ?_; rintro e w2 ⟨rfl, hb⟩; have hbk := blk_below (blk_new w _) hb; have c1 := (blk_cell hbk 1).trans (show _ = some (.int .i64 C.f) from rfl); have c2 := (blk_cell hbk 2).trans (show _ = some (.slice A2 C.ws.length _) from rfl); have HB := Aside0.mk (below_step (below_alloc (Below.refl w.heap.size w) _) hb); clear hb hbk) | (go_at_call 27; refine (PX.out _).mono ?_; rintro e w' ⟨rfl, rfl⟩))
    go_loopw [19] (fun v19 wr => ∃ j : Nat, j ≤ C.ws.length ∧ v19 = .int .i64 j ∧ Aside0 (Below w.heap.size w wr) ∧ Aside0 (atW ph C.ws = atW ph (C.ws.drop j))) (fun v19 _ => C.ws.length - (intOf v19).toNat)
    case atStart => exact ⟨0, by omega, rfl, HB, ⟨rfl⟩⟩
    case round =>
      obtain ⟨j, hj, rfl, HBJ, HF⟩ := hrel
      by_cases hlt : j < C.ws.length
      · have hst := atW_step ph C.ws j hlt
        rw [← HF.out] at hst
        have d1 : decide ((j : Int) < (C.ws.length : Int)) = true := decide_eq_true (by omega)
        have d1n : decide (j < C.ws.length) = true := decide_eq_true hlt
        have hcs := at_T41 (Kd.C_below HX.out HBJ.out) (j : Int) (by omega) (by omega)
        rw [show rd_T41 C.ws (j : Int) = C.ws[j] by simp [rd_T41, hlt], Int.toNat_natCast] at hcs
        have hx := HWN.out _ (List.getElem_mem hlt)
        generalize C.ws[j] = x at hcs hst hx
        obtain ⟨x0, x1, x2⟩ := x
        obtain ⟨ad, rfl, e0, e1, e2⟩ := hcs
        simp only [] at hx e0 e1 e2 hst
        obtain ⟨hx0, hx1, hx2⟩ := hx
        have hj0 : 0 ≤ (j : Int) := by omega
        have hj1 : (j : Int) < C.ws.length := by omega
        have hsi : IntKind.i64.wrap (x1 + x2) = x1 + x2 := IntWalk.i64_in _ (by omega)
        have hsw : wrap64 (x1 + x2) = x1 + x2 := w64_in (by omega) (by omega)
        have HST := Aside0.mk hst
        clear hst c1 c2
        by_cases hc1 : x1 ≤ ph
        · have q1 : decide (x1 ≤ ph) = true := decide_eq_true hc1
          by_cases hc2 : ph < x1 + x2
          · have q2 : decide (ph < x1 + x2) = true := decide_eq_true hc2
            have HS2 := Aside0.mk (HST.out.trans (if_pos ⟨hc1, hc2⟩))
            clear hc1 hc2
            go_wp2
            refine bodyPost_ret (results_tmp2 rfl _ _ _) rfl ?_
            rw [HR.out, HS2.out]
            exact ⟨rfl, below_alloc HBJ.out _⟩
          · have q2 : decide (ph < x1 + x2) = false := decide_eq_false hc2
            have HS2 := Aside0.mk (HST.out.trans (if_neg (fun h => hc2 h.2)))
            clear hc1 hc2
            go_wp2
            go_roundw
            case rel => exact ⟨j + 1, by omega, by go_num, ⟨below_alloc HBJ.out _⟩, HS2⟩
            case measure => simp [intOf]; omega
        · have q1 : decide (x1 ≤ ph) = false := decide_eq_false hc1
          have HS2 := Aside0.mk (HST.out.trans (if_neg (fun h => hc1 h.1)))
          clear hc1
          go_wp2
          go_roundw
          case rel => exact ⟨j + 1, by omega, by go_num, ⟨below_alloc HBJ.out _⟩, HS2⟩
          case measure => simp [intOf]; omega
      · have d1 : decide ((j : Int) < (C.ws.length : Int)) = false := decide_eq_false (by omega)
        have d1n : decide (j < C.ws.length) = false := decide_eq_false hlt
        obtain rfl : j = C.ws.length := by omega
        rw [List.drop_length] at HF
        go_wp2
        refine bodyPost_ret (results_tmp2 rfl _ _ _) rfl ?_
        rw [HR.out, HF.out]
        exact ⟨rfl, HBJ.out⟩
end Go.Proofs.YtmmkbgilcggkkaaDoor.Wn
