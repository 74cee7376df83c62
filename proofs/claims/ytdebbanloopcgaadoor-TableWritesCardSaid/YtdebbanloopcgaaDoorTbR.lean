/- Layer 5 (table): the document's Encode. -/
import Derived.Test.YtdebbanloopcgaaDoorTbQ1
import Derived.Test.YtdebbanloopcgaaDoorRm
set_option linter.unusedVariables false
set_option linter.unusedSimpArgs false
namespace Go.Proofs.YtdebbanloopcgaaDoor.Tb
open Go Go.RowKit Go.Proofs.YtdebbanloopcgaaDoorW.PrintWords Go.Proofs.YtdebbanloopcgaaDoorW.PrintLast Go.Proofs.YtdebbanloopcgaaDoorW.PrintMore Go.Proofs.YtdebbanloopcgaaDoor.Cz Go.Proofs.YtdebbanloopcgaaDoor.PTableWrites Go.Proofs.YtdebbanloopcgaaDoor.Cf
attribute [local go_sem] max2_int min2_int max_two min_two max_three min_three max_four min_four Tryd.underlying26 Tryd.underlying46 Tryd.underlying57
/-- The document's memory: the argument's block, the row that is written. -/
structure RE (w W : World) (cv : Array Value) (v : Value) (xs : List Int) : Prop where
  bx : W.heap[w.heap.size]? = some (.cells cv 26 (0, 0))
  ob : Wi.OI .u8 5 w W v xs
theorem RE.far {w W W' : World} {cv : Array Value} {v : Value} {xs : List Int} (h : RE w W cv v xs) (hb : Below W.heap.size W W') : RE w W' cv v xs := ⟨blk_below h.bx hb, h.ob.far hb⟩
theorem RE.app {w W W' : World} {cv : Array Value} {v v' : Value} {xs ys : List Int} (h : RE w W cv v xs) (ho : Wi.OI .u8 5 w W' v' ys) (hg : W.grownBy W' v.ownBlock) : RE w W' cv v' ys :=
  ⟨blk_grown h.bx hg (Kd.R_ne h.ob.r h.bx (by decide)), ho⟩
theorem RE.next {w W W' : World} {cv : Array Value} {v v' : Value} {xs ys : List Int} (h : RE w W cv v xs) (ho : Wi.OI .u8 5 W W' v' ys) : RE w W' cv v' ys := ⟨blk_below h.bx ho.bel, ho.less h.ob.bel⟩
set_option maxHeartbeats 16000000 in
set_option maxRecDepth 100000 in
theorem rput_any {n u : Int} (hp : Wi.putE n u = 0) {A : Option Addr} {c : Nat} {xs : List Int} {w : World} (hc : Wi.CI .u8 w A c xs) (hl : xs.length ≤ 900) :
    Calls Tryd.prog 27 #[.slice A xs.length c, .int .i64 n, .int .i64 u] w fun e w' => ∃ r, e = .returned r ∧ Wi.OI .u8 5 w w' r (xs ++ Wi.putB n u) := by
  have HP := Aside0.mk (Wi.rPut_ok hp hc hl)
  clear hp hc
  go_enter Tryd.func27, Tryd.ntmps27
  go_wp2_with (first | (go_at_call 37; (with_reducible refine HP.out.mono ?_); rintro e w1 ⟨r, rfl, ho⟩; have HO := Aside0.mk ho; clear ho))
  go_ret
  exact ⟨r, rfl, HO.out⟩
set_option maxHeartbeats 16000000 in
set_option maxRecDepth 100000 in
theorem renc_any {C : Cfg} {A2 A3 A4 : Option Addr} {c2 c3 c4 : Nat} {w : World} (hX : CX w C A2 c2 A3 c3 A4 c4) (lk : C.ks.length ≤ 1000) (la : C.ac.length ≤ 1000) (lw : C.ws.length ≤ 1000) :
    Calls Tryd.prog 12 #[.agg #[.int .i64 C.p, .int .i64 C.f, .slice A2 C.ws.length c2, .slice A3 C.ks.length c3, .slice A4 C.ac.length c4]] w fun e w' => ∃ r, e = .returned (.tuple #[r, .int .i64 (if okB C = true then 0 else 4)]) ∧ Wi.OI .u8 5 w w' r (if okB C = true then sealB (tabB C) else []) := by
  have CM : Aside0 (∀ W : World, Below w.heap.size w W → Calls Tryd.prog 26 #[.agg #[.int .i64 C.p, .int .i64 C.f, .slice A2 C.ws.length c2, .slice A3 C.ks.length c3, .slice A4 C.ac.length c4]] W fun e w' => e = .returned (.bool (okB C)) ∧ Below W.heap.size W w') := ⟨fun W hb => rmay_any (hX.below hb) lw lk la⟩
  have HX := Aside0.mk hX
  have HRG := Aside0.mk (fun h => ok_rg (C := C) h)
  obtain ⟨ok, hok⟩ : ∃ ok, okB C = ok := ⟨_, rfl⟩
  rw [hok] at CM HRG ⊢
  clear hX hok
  have H1 : Aside0 ((w.alloc (.cells #[.int .i64 C.p, .int .i64 C.f, .slice A2 C.ws.length c2, .slice A3 C.ks.length c3, .slice A4 C.ac.length c4] 26)).heap[w.heap.size]? = some (.cells #[.int .i64 C.p, .int .i64 C.f, .slice A2 C.ws.length c2, .slice A3 C.ks.length c3, .slice A4 C.ac.length c4] 26 (0, 0)) ∧ Below w.heap.size w (w.alloc (.cells #[.int .i64 C.p, .int .i64 C.f, .slice A2 C.ws.length c2, .slice A3 C.ks.length c3, .slice A4 C.ac.length c4] 26))) := ⟨⟨blk_new _ _, below_alloc (Below.refl _ _) _⟩⟩
  have b0 := (blk_cell H1.out.1 0).trans (show _ = some (.int .i64 C.p) from rfl)
  have b1 := (blk_cell H1.out.1 1).trans (show _ = some (.int .i64 C.f) from rfl)
  have b2 := (blk_cell H1.out.1 2).trans (show _ = some (.slice A2 C.ws.length c2) from rfl)
  have b3 := (blk_cell H1.out.1 3).trans (show _ = some (.slice A3 C.ks.length c3) from rfl)
  have b4 := (blk_cell H1.out.1 4).trans (show _ = some (.slice A4 C.ac.length c4) from rfl)
  cases ok
  · go_enter Tryd.func12, Tryd.ntmps12
    go_wp2_with (first | (go_at_call 26; (with_reducible refine (CM.out _ H1.out.2).mono ?_); rintro e w2 ⟨rfl, hb⟩; have H2 := Aside0.mk (And.intro (blk_below H1.out.1 hb) (below_step H1.out.2 hb)); clear hb b0 b1 b2 b3 b4))
    refine bodyPost_ret (results_tmp2 rfl _ _ _) rfl ?_
    exact ⟨_, rfl, Wi.OI.nil _ _ H2.out.2⟩
  · have hrg := HRG.out rfl
    have hw := hrg.w
    have hk := hrg.k
    have ha := hrg.a
    have HR := Aside0.mk hrg
    clear HRG hrg
    go_enter Tryd.func12, Tryd.ntmps12
    go_upto_region 4 with (first | (go_at_call 26; (with_reducible refine (CM.out _ H1.out.2).mono ?_); rintro e w2 ⟨rfl, hb⟩; have H2 := Aside0.mk (And.intro (blk_below H1.out.1 hb) (below_step H1.out.2 hb)); clear hb b0 b1 b2 b3 b4; have b0 := (blk_cell H2.out.1 0).trans (show _ = some (.int .i64 C.p) from rfl); have b1 := (blk_cell H2.out.1 1).trans (show _ = some (.int .i64 C.f) from rfl); have b2 := (blk_cell H2.out.1 2).trans (show _ = some (.slice A2 C.ws.length c2) from rfl); have b3 := (blk_cell H2.out.1 3).trans (show _ = some (.slice A3 C.ks.length c3) from rfl); have b4 := (blk_cell H2.out.1 4).trans (show _ = some (.slice A4 C.ac.length c4) from rfl)))
    clear H1 CM
    go_upto_region 5 with (first | (rw [Wi.wrap8]) | ((with_reducible refine gate_dst (N := 26) rfl ?_); refine Wi.lit_ints (k := .u8) (e := 5) ?hg (N := 26) ?hd [231, 1, C.p % 256, C.f % 256, (C.ws.length : Int)] #[.int .u8 231, .int .u8 1, .int .u8 (C.p % 256), .int .u8 (C.f % 256), .int .u8 ((C.ws.length : Int))] ?hr ?hi ?hm ?_; (case hd => rfl); (case hg => rfl); (case hr => first | (go_simp; done) | (go_simp; rfl)); (case hi => rfl); (case hm => simp); intro D wl hC hO; have HLC := Aside0.mk hC; have HLO := Aside0.mk hO; clear hC hO))
    simp only [List.length_cons, List.length_nil] at HLO
    have H3 : Aside0 (RE w wl #[.int .i64 C.p, .int .i64 C.f, .slice A2 C.ws.length c2, .slice A3 C.ks.length c3, .slice A4 C.ac.length c4] (.slice D 5 5) [231, 1, C.p % 256, C.f % 256, (C.ws.length : Int)]) := ⟨⟨blk_below H2.out.1 HLO.out.bel, HLO.out.less H2.out.2⟩⟩
    clear HLO HLC H2 b0 b1 b2 b3 b4
    obtain ⟨x3, hx3⟩ : ∃ x, ([231, 1, C.p % 256, C.f % 256, (C.ws.length : Int)] : List Int) = x := ⟨_, rfl⟩
    have HL3 := Aside0.mk (show x3.length = 5 by rw [← hx3]; rfl)
    rw [hx3] at H3
    have X3 := Aside0.mk hx3
    clear hx3
    go_wp2
    go_loopw [5, 6] (fun v5 v6 wr => ∃ (j : Nat) (ys : List Int), v6 = .int .i64 j ∧ j ≤ C.ws.length ∧ Aside0 (RE w wr #[.int .i64 C.p, .int .i64 C.f, .slice A2 C.ws.length c2, .slice A3 C.ks.length c3, .slice A4 C.ac.length c4] v5 ys) ∧ Aside0 (ys = x3 ++ (C.ws.take j).flatMap encW) ∧ Aside0 (ys.length = x3.length + 3 * j)) (fun _ v6 _ => C.ws.length - (intOf v6).toNat)
    case atStart => exact ⟨0, x3, rfl, by omega, H3, ⟨by simp⟩, ⟨by omega⟩⟩
    case round =>
      clear H3
      rename_i gv5 gv6
      obtain ⟨j, ys, rfl, hj, HI, HY, HLY⟩ := hrel
      have b0 := (blk_cell HI.out.bx 0).trans (show _ = some (.int .i64 C.p) from rfl)
      have b1 := (blk_cell HI.out.bx 1).trans (show _ = some (.int .i64 C.f) from rfl)
      have b2 := (blk_cell HI.out.bx 2).trans (show _ = some (.slice A2 C.ws.length c2) from rfl)
      have b3 := (blk_cell HI.out.bx 3).trans (show _ = some (.slice A3 C.ks.length c3) from rfl)
      have b4 := (blk_cell HI.out.bx 4).trans (show _ = some (.slice A4 C.ac.length c4) from rfl)
      by_cases hlt : j < C.ws.length
      · have d1 : decide ((j : Int) < (C.ws.length : Int)) = true := decide_eq_true (by omega)
        have d1n : decide (j < C.ws.length) = true := decide_eq_true hlt
        have hj0 : 0 ≤ (j : Int) := by omega
        have hj1 : (j : Int) < C.ws.length := by omega
        have hcs := at_T46 (Kd.C_below HX.out.w HI.out.ob.bel) (j : Int) hj0 hj1
        rw [show rd_T46 C.ws (j : Int) = C.ws[j] by simp [rd_T46, hlt], Int.toNat_natCast] at hcs
        have hwr := HR.out.ws _ (List.getElem_mem hlt)
        have htf := take_flat encW hlt
        generalize C.ws[j] = x at hcs hwr htf
        obtain ⟨x0, x1, x2⟩ := x
        obtain ⟨ad, rfl, e0, e1, e2⟩ := hcs
        simp only [] at e0 e1 e2 hwr
        have HTF := Aside0.mk htf
        clear htf
        have HN := And.intro (HI.out.far (below_alloc (Below.refl wr.heap.size wr) (.cells #[.int .i64 x0, .int .i64 x1, .int .i64 x2] 46))) (blk_new wr (.cells #[.int .i64 x0, .int .i64 x1, .int .i64 x2] 46))
        go_upto_region 9 with (first | fail)
        clear b0 b1 b2 b3 b4 e0 e1 e2
        revert HN
        generalize (wr.alloc (.cells #[.int .i64 x0, .int .i64 x1, .int .i64 x2] 46)) = w5
        generalize wr.heap.size = kb
        intro HN
        have g0 := (blk_cell HN.2 0).trans (show _ = some (.int .i64 x0) from rfl)
        have g1 := (blk_cell HN.2 1).trans (show _ = some (.int .i64 x1) from rfl)
        have g2 := (blk_cell HN.2 2).trans (show _ = some (.int .i64 x2) from rfl)
        have H5 := Aside0.mk HN.1
        clear HN
        by_cases hneg : x0 < 0
        · have q1 : decide (x0 < 0) = true := decide_eq_true hneg
          have HE : Aside0 (encW ⟨x0, x1, x2⟩ = [255 % 256, x1 % 256, x2 % 256]) := ⟨by show Wi.putB 1 (ownB x0) ++ _ = _; rw [show ownB x0 = 255 by unfold ownB; rw [if_pos (by omega)]]; rfl⟩
          clear hneg hwr
          go_wp2_with (first | (rw [Wi.wrap8]) | ((with_reducible refine gate_dst (N := 52) rfl ?_); refine Wi.lit_ints (k := .u8) (e := 5) ?hg (N := 52) ?hd [255, x1 % 256, x2 % 256] #[.int .u8 255, .int .u8 (x1 % 256), .int .u8 (x2 % 256)] ?hr ?hi ?hm ?_; (case hd => rfl); (case hg => rfl); (case hr => first | (go_simp; done) | (go_simp; rfl)); (case hi => rfl); (case hm => simp); intro D wl hC hO; have HLC := Aside0.mk hC; have HLO := Aside0.mk hO; have H6 := Aside0.mk (H5.out.far hO.bel); clear hC hO) | ((with_reducible refine gate_builtin (b := .append) (xs := #[.tmp 43, .tmp 52]) rfl ?_); at_builtin; refine Wi.app_ints (k := .u8) (w0 := w) rfl (.tmp 43) (.tmp 52) 29 1 rfl Tryd.underlying29 Wi.info8 (by decide) (by decide) _ ys [255, x1 % 256, x2 % 256] _ _ _ rfl rfl rfl ?aO ?aR ?aL ?_; (case aL => simp only [List.length_cons, List.length_nil]; ((try have hHL3 := HL3.out); (try have hHLY := HLY.out); (try have hHL10 := HL10.out); (try have hHLZ := HLZ.out); (try have hHL13 := HL13.out); (try have hHL14 := HL14.out); (try have hHL16 := HL16.out); (try have hHL17 := HL17.out); (try have hHL19 := HL19.out); (try have hHL21 := HL21.out); (try have hHLU := HLU.out); (try have hHL23 := HL23.out)); omega); (case aR => exact HLC.out); (case aO => exact H6.out.ob); intro va wa ho hg hat; have H7 := Aside0.mk (H6.out.app ho hg); clear ho hg hat))
          have HEQ : Aside0 (ys ++ [255, x1 % 256, x2 % 256] = x3 ++ (C.ws.take (j + 1)).flatMap encW) := ⟨by rw [HTF.out, HE.out, HY.out]; simp⟩
          go_roundw
          case rel => exact ⟨j + 1, _, by go_num, by omega, H7, HEQ, ⟨by simp only [List.length_append, List.length_cons, List.length_nil]; have := HLY.out; omega⟩⟩
          case measure => simp [intOf]; omega
        · have q1 : decide (x0 < 0) = false := decide_eq_false hneg
          have HE : Aside0 (encW ⟨x0, x1, x2⟩ = [x0 % 256, x1 % 256, x2 % 256]) := ⟨by show Wi.putB 1 (ownB x0) ++ _ = _; rw [show ownB x0 = x0 by unfold ownB; rw [if_neg (by omega)]]; rfl⟩
          clear hneg hwr
          go_wp2_with (first | (rw [Wi.wrap8]) | ((with_reducible refine gate_dst (N := 52) rfl ?_); refine Wi.lit_ints (k := .u8) (e := 5) ?hg (N := 52) ?hd [x0 % 256, x1 % 256, x2 % 256] #[.int .u8 (x0 % 256), .int .u8 (x1 % 256), .int .u8 (x2 % 256)] ?hr ?hi ?hm ?_; (case hd => rfl); (case hg => rfl); (case hr => first | (go_simp; done) | (go_simp; rfl)); (case hi => rfl); (case hm => simp); intro D wl hC hO; have HLC := Aside0.mk hC; have HLO := Aside0.mk hO; have H6 := Aside0.mk (H5.out.far hO.bel); clear hC hO) | ((with_reducible refine gate_builtin (b := .append) (xs := #[.tmp 43, .tmp 52]) rfl ?_); at_builtin; refine Wi.app_ints (k := .u8) (w0 := w) rfl (.tmp 43) (.tmp 52) 29 1 rfl Tryd.underlying29 Wi.info8 (by decide) (by decide) _ ys [x0 % 256, x1 % 256, x2 % 256] _ _ _ rfl rfl rfl ?aO ?aR ?aL ?_; (case aL => simp only [List.length_cons, List.length_nil]; ((try have hHL3 := HL3.out); (try have hHLY := HLY.out); (try have hHL10 := HL10.out); (try have hHLZ := HLZ.out); (try have hHL13 := HL13.out); (try have hHL14 := HL14.out); (try have hHL16 := HL16.out); (try have hHL17 := HL17.out); (try have hHL19 := HL19.out); (try have hHL21 := HL21.out); (try have hHLU := HLU.out); (try have hHL23 := HL23.out)); omega); (case aR => exact HLC.out); (case aO => exact H6.out.ob); intro va wa ho hg hat; have H7 := Aside0.mk (H6.out.app ho hg); clear ho hg hat))
          have HEQ : Aside0 (ys ++ [x0 % 256, x1 % 256, x2 % 256] = x3 ++ (C.ws.take (j + 1)).flatMap encW) := ⟨by rw [HTF.out, HE.out, HY.out]; simp⟩
          go_roundw
          case rel => exact ⟨j + 1, _, by go_num, by omega, H7, HEQ, ⟨by simp only [List.length_append, List.length_cons, List.length_nil]; have := HLY.out; omega⟩⟩
          case measure => simp [intOf]; omega
      · have d1 : decide ((j : Int) < (C.ws.length : Int)) = false := decide_eq_false (by omega)
        have d1n : decide (j < C.ws.length) = false := decide_eq_false hlt
        obtain rfl : j = C.ws.length := by omega
        rw [List.take_length] at HY
        go_upto_region 14 with (first | (rw [Wi.wrap8]) | ((with_reducible refine gate_dst (N := 59) rfl ?_); refine Wi.lit_ints (k := .u8) (e := 5) ?hg (N := 59) ?hd [(C.ks.length : Int)] #[.int .u8 ((C.ks.length : Int))] ?hr ?hi ?hm ?_; (case hd => rfl); (case hg => rfl); (case hr => first | (go_simp; done) | (go_simp; rfl)); (case hi => rfl); (case hm => simp); intro D wl hC hO; have HLC := Aside0.mk hC; have HLO := Aside0.mk hO; have H8 := Aside0.mk (HI.out.far hO.bel); clear hC hO) | ((with_reducible refine gate_builtin (b := .append) (xs := #[.tmp 54, .tmp 59]) rfl ?_); at_builtin; refine Wi.app_ints (k := .u8) (w0 := w) rfl (.tmp 54) (.tmp 59) 29 1 rfl Tryd.underlying29 Wi.info8 (by decide) (by decide) _ ys [(C.ks.length : Int)] _ _ _ rfl rfl rfl ?aO ?aR ?aL ?_; (case aL => simp only [List.length_cons, List.length_nil]; ((try have hHL3 := HL3.out); (try have hHLY := HLY.out); (try have hHL10 := HL10.out); (try have hHLZ := HLZ.out); (try have hHL13 := HL13.out); (try have hHL14 := HL14.out); (try have hHL16 := HL16.out); (try have hHL17 := HL17.out); (try have hHL19 := HL19.out); (try have hHL21 := HL21.out); (try have hHLU := HLU.out); (try have hHL23 := HL23.out)); omega); (case aR => exact HLC.out); (case aO => exact H8.out.ob); intro va wa ho hg hat; obtain ⟨y10, hy⟩ : ∃ y, ys ++ [(C.ks.length : Int)] = y := ⟨_, rfl⟩; rw [hy] at ho; obtain ⟨A10, a10, rfl, hc⟩ := ho.reads; have H10 := Aside0.mk (H8.out.app ho hg); have HC10 := Aside0.mk hc; have HL10 := Aside0.mk (show y10.length = ys.length + 1 from (by rw [← hy]; simp)); have Y10 := Aside0.mk hy; clear hy hc; clear ho hg hat))
        clear HI H8 HLC HLO b0 b1 b2 b3 b4
        go_wp2
        go_loopw [5, 9] (fun v5 v9 wr => ∃ (j : Nat) (ys : List Int), v9 = .int .i64 j ∧ j ≤ C.ks.length ∧ Aside0 (RE w wr #[.int .i64 C.p, .int .i64 C.f, .slice A2 C.ws.length c2, .slice A3 C.ks.length c3, .slice A4 C.ac.length c4] v5 ys) ∧ Aside0 (ys = y10 ++ (C.ks.take j).flatMap encK) ∧ Aside0 (ys.length = y10.length + 17 * j)) (fun _ v9 _ => C.ks.length - (intOf v9).toNat)
        case atStart => exact ⟨0, y10, rfl, by omega, H10, ⟨by simp⟩, ⟨by omega⟩⟩
        case round =>
          clear H10 HC10 d1 d1n hlt hj
          rename_i gv5b gv9
          obtain ⟨j, zs, rfl, hj, HI, HZ, HLZ⟩ := hrel
          have b0 := (blk_cell HI.out.bx 0).trans (show _ = some (.int .i64 C.p) from rfl)
          have b1 := (blk_cell HI.out.bx 1).trans (show _ = some (.int .i64 C.f) from rfl)
          have b2 := (blk_cell HI.out.bx 2).trans (show _ = some (.slice A2 C.ws.length c2) from rfl)
          have b3 := (blk_cell HI.out.bx 3).trans (show _ = some (.slice A3 C.ks.length c3) from rfl)
          have b4 := (blk_cell HI.out.bx 4).trans (show _ = some (.slice A4 C.ac.length c4) from rfl)
          by_cases hlt : j < C.ks.length
          · have d1 : decide ((j : Int) < (C.ks.length : Int)) = true := decide_eq_true (by omega)
            have d1n : decide (j < C.ks.length) = true := decide_eq_true hlt
            have hj0 : 0 ≤ (j : Int) := by omega
            have hj1 : (j : Int) < C.ks.length := by omega
            have hcs := at_T57 (Kd.C_below HX.out.k HI.out.ob.bel) (j : Int) hj0 hj1
            rw [show rd_T57 C.ks (j : Int) = C.ks[j] by simp [rd_T57, hlt], Int.toNat_natCast] at hcs
            have hkr := HR.out.ks _ (List.getElem_mem hlt)
            have htf := take_flat encK hlt
            generalize C.ks[j] = x at hcs hkr htf
            obtain ⟨x0, x1, x2, xx3, x4, x5, x6, x7, x8, x9, x10⟩ := x
            obtain ⟨ad, rfl, e0, e1, e2, e3, e4, e5, e6, e7, e8, e9, e10⟩ := hcs
            simp only [] at e0 e1 e2 e3 e4 e5 e6 e7 e8 e9 e10 hkr
            have HTF := Aside0.mk htf
            have HKR := Aside0.mk hkr
            clear htf hkr
            have HN := And.intro (HI.out.far (below_alloc (Below.refl wr.heap.size wr) (.cells #[.int .i64 x0, .int .i64 x1, .int .i64 x2, .int .i64 xx3, .int .i64 x4, .int .i64 x5, .int .i64 x6, .int .i64 x7, .int .i64 x8, .int .i64 x9, .int .i64 x10] 57))) (blk_new wr (.cells #[.int .i64 x0, .int .i64 x1, .int .i64 x2, .int .i64 xx3, .int .i64 x4, .int .i64 x5, .int .i64 x6, .int .i64 x7, .int .i64 x8, .int .i64 x9, .int .i64 x10] 57))
            go_upto_region 18 with (first | fail)
            clear b0 b1 b2 b3 b4 e0 e1 e2 e3 e4 e5 e6 e7 e8 e9 e10
            revert HN
            generalize (wr.alloc (.cells #[.int .i64 x0, .int .i64 x1, .int .i64 x2, .int .i64 xx3, .int .i64 x4, .int .i64 x5, .int .i64 x6, .int .i64 x7, .int .i64 x8, .int .i64 x9, .int .i64 x10] 57)) = w5
            generalize wr.heap.size = kb
            intro HN
            have H11 := Aside0.mk HN
            clear HN
            have g0 := (blk_cell H11.out.2 0).trans (show _ = some (.int .i64 x0) from rfl)
            have g1 := (blk_cell H11.out.2 1).trans (show _ = some (.int .i64 x1) from rfl)
            have g2 := (blk_cell H11.out.2 2).trans (show _ = some (.int .i64 x2) from rfl)
            have g3 := (blk_cell H11.out.2 3).trans (show _ = some (.int .i64 xx3) from rfl)
            have g4 := (blk_cell H11.out.2 4).trans (show _ = some (.int .i64 x4) from rfl)
            have g5 := (blk_cell H11.out.2 5).trans (show _ = some (.int .i64 x5) from rfl)
            have g6 := (blk_cell H11.out.2 6).trans (show _ = some (.int .i64 x6) from rfl)
            have g7 := (blk_cell H11.out.2 7).trans (show _ = some (.int .i64 x7) from rfl)
            have g8 := (blk_cell H11.out.2 8).trans (show _ = some (.int .i64 x8) from rfl)
            have g9 := (blk_cell H11.out.2 9).trans (show _ = some (.int .i64 x9) from rfl)
            have g10 := (blk_cell H11.out.2 10).trans (show _ = some (.int .i64 x10) from rfl)
            go_upto_region 19 with (first | (rw [Wi.wrap8]) | ((with_reducible refine gate_dst (N := 86) rfl ?_); refine Wi.lit_ints (k := .u8) (e := 5) ?hg (N := 86) ?hd [x0 % 256, x1 % 256, x2 % 256, xx3 % 256] #[.int .u8 (x0 % 256), .int .u8 (x1 % 256), .int .u8 (x2 % 256), .int .u8 (xx3 % 256)] ?hr ?hi ?hm ?_; (case hd => rfl); (case hg => rfl); (case hr => first | (go_simp; done) | (go_simp; rfl)); (case hi => rfl); (case hm => simp); intro D wl hC hO; have HLC := Aside0.mk hC; have HLO := Aside0.mk hO; have H12 := Aside0.mk (And.intro (H11.out.1.far hO.bel) (blk_below H11.out.2 hO.bel)); clear g0 g1 g2 g3 g4 g5 g6 g7 g8 g9 g10; have g0 := (blk_cell H12.out.2 0).trans (show _ = some (.int .i64 x0) from rfl); have g1 := (blk_cell H12.out.2 1).trans (show _ = some (.int .i64 x1) from rfl); have g2 := (blk_cell H12.out.2 2).trans (show _ = some (.int .i64 x2) from rfl); have g3 := (blk_cell H12.out.2 3).trans (show _ = some (.int .i64 xx3) from rfl); have g4 := (blk_cell H12.out.2 4).trans (show _ = some (.int .i64 x4) from rfl); have g5 := (blk_cell H12.out.2 5).trans (show _ = some (.int .i64 x5) from rfl); have g6 := (blk_cell H12.out.2 6).trans (show _ = some (.int .i64 x6) from rfl); have g7 := (blk_cell H12.out.2 7).trans (show _ = some (.int .i64 x7) from rfl); have g8 := (blk_cell H12.out.2 8).trans (show _ = some (.int .i64 x8) from rfl); have g9 := (blk_cell H12.out.2 9).trans (show _ = some (.int .i64 x9) from rfl); have g10 := (blk_cell H12.out.2 10).trans (show _ = some (.int .i64 x10) from rfl); clear hC hO) | ((with_reducible refine gate_builtin (b := .append) (xs := #[.tmp 73, .tmp 86]) rfl ?_); at_builtin; refine Wi.app_ints (k := .u8) (w0 := w) rfl (.tmp 73) (.tmp 86) 29 1 rfl Tryd.underlying29 Wi.info8 (by decide) (by decide) _ zs [x0 % 256, x1 % 256, x2 % 256, xx3 % 256] _ _ _ rfl rfl rfl ?aO ?aR ?aL ?_; (case aL => simp only [List.length_cons, List.length_nil]; ((try have hHL3 := HL3.out); (try have hHLY := HLY.out); (try have hHL10 := HL10.out); (try have hHLZ := HLZ.out); (try have hHL13 := HL13.out); (try have hHL14 := HL14.out); (try have hHL16 := HL16.out); (try have hHL17 := HL17.out); (try have hHL19 := HL19.out); (try have hHL21 := HL21.out); (try have hHLU := HLU.out); (try have hHL23 := HL23.out)); omega); (case aR => exact HLC.out); (case aO => exact H12.out.1.ob); intro va wa ho hg hat; obtain ⟨y13, hy⟩ : ∃ y, zs ++ [x0 % 256, x1 % 256, x2 % 256, xx3 % 256] = y := ⟨_, rfl⟩; rw [hy] at ho; obtain ⟨A13, a13, rfl, hc⟩ := ho.reads; have H13 := Aside0.mk (And.intro (H12.out.1.app ho hg) (blk_grown H12.out.2 hg (Kd.R_ne H12.out.1.ob.r H12.out.2 (by decide)))); have HC13 := Aside0.mk hc; have HL13 := Aside0.mk (show y13.length = zs.length + 4 from (by rw [← hy]; simp)); have Y13 := Aside0.mk hy; clear hy hc g0 g1 g2 g3 g4 g5 g6 g7 g8 g9 g10; have g0 := (blk_cell H13.out.2 0).trans (show _ = some (.int .i64 x0) from rfl); have g1 := (blk_cell H13.out.2 1).trans (show _ = some (.int .i64 x1) from rfl); have g2 := (blk_cell H13.out.2 2).trans (show _ = some (.int .i64 x2) from rfl); have g3 := (blk_cell H13.out.2 3).trans (show _ = some (.int .i64 xx3) from rfl); have g4 := (blk_cell H13.out.2 4).trans (show _ = some (.int .i64 x4) from rfl); have g5 := (blk_cell H13.out.2 5).trans (show _ = some (.int .i64 x5) from rfl); have g6 := (blk_cell H13.out.2 6).trans (show _ = some (.int .i64 x6) from rfl); have g7 := (blk_cell H13.out.2 7).trans (show _ = some (.int .i64 x7) from rfl); have g8 := (blk_cell H13.out.2 8).trans (show _ = some (.int .i64 x8) from rfl); have g9 := (blk_cell H13.out.2 9).trans (show _ = some (.int .i64 x9) from rfl); have g10 := (blk_cell H13.out.2 10).trans (show _ = some (.int .i64 x10) from rfl); clear ho hg hat))
            clear H11 H12 HLC HLO
            go_upto_region 20 with (first | (go_at_call 27; (with_reducible refine (rput_any (n := 4) (u := x4) (put4 HKR.out.2.1.1 HKR.out.2.1.2) HC13.out (by ((try have hHL3 := HL3.out); (try have hHLY := HLY.out); (try have hHL10 := HL10.out); (try have hHLZ := HLZ.out); (try have hHL13 := HL13.out); (try have hHL14 := HL14.out); (try have hHL16 := HL16.out); (try have hHL17 := HL17.out); (try have hHL19 := HL19.out); (try have hHL21 := HL21.out); (try have hHLU := HLU.out); (try have hHL23 := HL23.out)); omega)).mono ?_); rintro e wp ⟨r, rfl, ho⟩; obtain ⟨y14, hy⟩ : ∃ y, y13 ++ Wi.putB 4 x4 = y := ⟨_, rfl⟩; rw [hy] at ho; have H14 := Aside0.mk (And.intro (H13.out.1.next ho) (blk_below H13.out.2 ho.bel)); obtain ⟨A14, a14, rfl, hc⟩ := ho.reads; have HC14 := Aside0.mk hc; have HL14 := Aside0.mk (show y14.length = y13.length + 4 from (by rw [← hy, List.length_append, putB_len4])); have Y14 := Aside0.mk hy; clear hy hc ho g0 g1 g2 g3 g4 g5 g6 g7 g8 g9 g10; have g0 := (blk_cell H14.out.2 0).trans (show _ = some (.int .i64 x0) from rfl); have g1 := (blk_cell H14.out.2 1).trans (show _ = some (.int .i64 x1) from rfl); have g2 := (blk_cell H14.out.2 2).trans (show _ = some (.int .i64 x2) from rfl); have g3 := (blk_cell H14.out.2 3).trans (show _ = some (.int .i64 xx3) from rfl); have g4 := (blk_cell H14.out.2 4).trans (show _ = some (.int .i64 x4) from rfl); have g5 := (blk_cell H14.out.2 5).trans (show _ = some (.int .i64 x5) from rfl); have g6 := (blk_cell H14.out.2 6).trans (show _ = some (.int .i64 x6) from rfl); have g7 := (blk_cell H14.out.2 7).trans (show _ = some (.int .i64 x7) from rfl); have g8 := (blk_cell H14.out.2 8).trans (show _ = some (.int .i64 x8) from rfl); have g9 := (blk_cell H14.out.2 9).trans (show _ = some (.int .i64 x9) from rfl); have g10 := (blk_cell H14.out.2 10).trans (show _ = some (.int .i64 x10) from rfl)))
            clear H13 HC13
            go_upto_region 21 with (first | (rw [Wi.wrap8]) | ((with_reducible refine gate_dst (N := 102) rfl ?_); refine Wi.lit_ints (k := .u8) (e := 5) ?hg (N := 102) ?hd [x5 % 256, x6 % 256, x7 % 256] #[.int .u8 (x5 % 256), .int .u8 (x6 % 256), .int .u8 (x7 % 256)] ?hr ?hi ?hm ?_; (case hd => rfl); (case hg => rfl); (case hr => first | (go_simp; done) | (go_simp; rfl)); (case hi => rfl); (case hm => simp); intro D wl hC hO; have HLC := Aside0.mk hC; have HLO := Aside0.mk hO; have H15 := Aside0.mk (And.intro (H14.out.1.far hO.bel) (blk_below H14.out.2 hO.bel)); clear g0 g1 g2 g3 g4 g5 g6 g7 g8 g9 g10; have g0 := (blk_cell H15.out.2 0).trans (show _ = some (.int .i64 x0) from rfl); have g1 := (blk_cell H15.out.2 1).trans (show _ = some (.int .i64 x1) from rfl); have g2 := (blk_cell H15.out.2 2).trans (show _ = some (.int .i64 x2) from rfl); have g3 := (blk_cell H15.out.2 3).trans (show _ = some (.int .i64 xx3) from rfl); have g4 := (blk_cell H15.out.2 4).trans (show _ = some (.int .i64 x4) from rfl); have g5 := (blk_cell H15.out.2 5).trans (show _ = some (.int .i64 x5) from rfl); have g6 := (blk_cell H15.out.2 6).trans (show _ = some (.int .i64 x6) from rfl); have g7 := (blk_cell H15.out.2 7).trans (show _ = some (.int .i64 x7) from rfl); have g8 := (blk_cell H15.out.2 8).trans (show _ = some (.int .i64 x8) from rfl); have g9 := (blk_cell H15.out.2 9).trans (show _ = some (.int .i64 x9) from rfl); have g10 := (blk_cell H15.out.2 10).trans (show _ = some (.int .i64 x10) from rfl); clear hC hO) | ((with_reducible refine gate_builtin (b := .append) (xs := #[.tmp 92, .tmp 102]) rfl ?_); at_builtin; refine Wi.app_ints (k := .u8) (w0 := w) rfl (.tmp 92) (.tmp 102) 29 1 rfl Tryd.underlying29 Wi.info8 (by decide) (by decide) _ y14 [x5 % 256, x6 % 256, x7 % 256] _ _ _ rfl rfl rfl ?aO ?aR ?aL ?_; (case aL => simp only [List.length_cons, List.length_nil]; ((try have hHL3 := HL3.out); (try have hHLY := HLY.out); (try have hHL10 := HL10.out); (try have hHLZ := HLZ.out); (try have hHL13 := HL13.out); (try have hHL14 := HL14.out); (try have hHL16 := HL16.out); (try have hHL17 := HL17.out); (try have hHL19 := HL19.out); (try have hHL21 := HL21.out); (try have hHLU := HLU.out); (try have hHL23 := HL23.out)); omega); (case aR => exact HLC.out); (case aO => exact H15.out.1.ob); intro va wa ho hg hat; obtain ⟨y16, hy⟩ : ∃ y, y14 ++ [x5 % 256, x6 % 256, x7 % 256] = y := ⟨_, rfl⟩; rw [hy] at ho; obtain ⟨A16, a16, rfl, hc⟩ := ho.reads; have H16 := Aside0.mk (And.intro (H15.out.1.app ho hg) (blk_grown H15.out.2 hg (Kd.R_ne H15.out.1.ob.r H15.out.2 (by decide)))); have HC16 := Aside0.mk hc; have HL16 := Aside0.mk (show y16.length = y14.length + 3 from (by rw [← hy]; simp)); have Y16 := Aside0.mk hy; clear hy hc g0 g1 g2 g3 g4 g5 g6 g7 g8 g9 g10; have g0 := (blk_cell H16.out.2 0).trans (show _ = some (.int .i64 x0) from rfl); have g1 := (blk_cell H16.out.2 1).trans (show _ = some (.int .i64 x1) from rfl); have g2 := (blk_cell H16.out.2 2).trans (show _ = some (.int .i64 x2) from rfl); have g3 := (blk_cell H16.out.2 3).trans (show _ = some (.int .i64 xx3) from rfl); have g4 := (blk_cell H16.out.2 4).trans (show _ = some (.int .i64 x4) from rfl); have g5 := (blk_cell H16.out.2 5).trans (show _ = some (.int .i64 x5) from rfl); have g6 := (blk_cell H16.out.2 6).trans (show _ = some (.int .i64 x6) from rfl); have g7 := (blk_cell H16.out.2 7).trans (show _ = some (.int .i64 x7) from rfl); have g8 := (blk_cell H16.out.2 8).trans (show _ = some (.int .i64 x8) from rfl); have g9 := (blk_cell H16.out.2 9).trans (show _ = some (.int .i64 x9) from rfl); have g10 := (blk_cell H16.out.2 10).trans (show _ = some (.int .i64 x10) from rfl); clear ho hg hat))
            clear H14 H15 HC14 HLC HLO
            go_upto_region 22 with (first | (go_at_call 27; (with_reducible refine (rput_any (n := 4) (u := x8) (put4 HKR.out.2.2.2.1.1 HKR.out.2.2.2.1.2) HC16.out (by ((try have hHL3 := HL3.out); (try have hHLY := HLY.out); (try have hHL10 := HL10.out); (try have hHLZ := HLZ.out); (try have hHL13 := HL13.out); (try have hHL14 := HL14.out); (try have hHL16 := HL16.out); (try have hHL17 := HL17.out); (try have hHL19 := HL19.out); (try have hHL21 := HL21.out); (try have hHLU := HLU.out); (try have hHL23 := HL23.out)); omega)).mono ?_); rintro e wp ⟨r, rfl, ho⟩; obtain ⟨y17, hy⟩ : ∃ y, y16 ++ Wi.putB 4 x8 = y := ⟨_, rfl⟩; rw [hy] at ho; have H17 := Aside0.mk (And.intro (H16.out.1.next ho) (blk_below H16.out.2 ho.bel)); obtain ⟨A17, a17, rfl, hc⟩ := ho.reads; have HC17 := Aside0.mk hc; have HL17 := Aside0.mk (show y17.length = y16.length + 4 from (by rw [← hy, List.length_append, putB_len4])); have Y17 := Aside0.mk hy; clear hy hc ho g0 g1 g2 g3 g4 g5 g6 g7 g8 g9 g10; have g0 := (blk_cell H17.out.2 0).trans (show _ = some (.int .i64 x0) from rfl); have g1 := (blk_cell H17.out.2 1).trans (show _ = some (.int .i64 x1) from rfl); have g2 := (blk_cell H17.out.2 2).trans (show _ = some (.int .i64 x2) from rfl); have g3 := (blk_cell H17.out.2 3).trans (show _ = some (.int .i64 xx3) from rfl); have g4 := (blk_cell H17.out.2 4).trans (show _ = some (.int .i64 x4) from rfl); have g5 := (blk_cell H17.out.2 5).trans (show _ = some (.int .i64 x5) from rfl); have g6 := (blk_cell H17.out.2 6).trans (show _ = some (.int .i64 x6) from rfl); have g7 := (blk_cell H17.out.2 7).trans (show _ = some (.int .i64 x7) from rfl); have g8 := (blk_cell H17.out.2 8).trans (show _ = some (.int .i64 x8) from rfl); have g9 := (blk_cell H17.out.2 9).trans (show _ = some (.int .i64 x9) from rfl); have g10 := (blk_cell H17.out.2 10).trans (show _ = some (.int .i64 x10) from rfl)))
            clear H16 HC16
            go_wp2_with (first | (rw [Wi.wrap8]) | ((with_reducible refine gate_dst (N := 115) rfl ?_); refine Wi.lit_ints (k := .u8) (e := 5) ?hg (N := 115) ?hd [x9 % 256, x10 % 256] #[.int .u8 (x9 % 256), .int .u8 (x10 % 256)] ?hr ?hi ?hm ?_; (case hd => rfl); (case hg => rfl); (case hr => first | (go_simp; done) | (go_simp; rfl)); (case hi => rfl); (case hm => simp); intro D wl hC hO; have HLC := Aside0.mk hC; have HLO := Aside0.mk hO; have H18 := Aside0.mk (And.intro (H17.out.1.far hO.bel) (blk_below H17.out.2 hO.bel)); clear g0 g1 g2 g3 g4 g5 g6 g7 g8 g9 g10; have g0 := (blk_cell H18.out.2 0).trans (show _ = some (.int .i64 x0) from rfl); have g1 := (blk_cell H18.out.2 1).trans (show _ = some (.int .i64 x1) from rfl); have g2 := (blk_cell H18.out.2 2).trans (show _ = some (.int .i64 x2) from rfl); have g3 := (blk_cell H18.out.2 3).trans (show _ = some (.int .i64 xx3) from rfl); have g4 := (blk_cell H18.out.2 4).trans (show _ = some (.int .i64 x4) from rfl); have g5 := (blk_cell H18.out.2 5).trans (show _ = some (.int .i64 x5) from rfl); have g6 := (blk_cell H18.out.2 6).trans (show _ = some (.int .i64 x6) from rfl); have g7 := (blk_cell H18.out.2 7).trans (show _ = some (.int .i64 x7) from rfl); have g8 := (blk_cell H18.out.2 8).trans (show _ = some (.int .i64 x8) from rfl); have g9 := (blk_cell H18.out.2 9).trans (show _ = some (.int .i64 x9) from rfl); have g10 := (blk_cell H18.out.2 10).trans (show _ = some (.int .i64 x10) from rfl); clear hC hO) | ((with_reducible refine gate_builtin (b := .append) (xs := #[.tmp 108, .tmp 115]) rfl ?_); at_builtin; refine Wi.app_ints (k := .u8) (w0 := w) rfl (.tmp 108) (.tmp 115) 29 1 rfl Tryd.underlying29 Wi.info8 (by decide) (by decide) _ y17 [x9 % 256, x10 % 256] _ _ _ rfl rfl rfl ?aO ?aR ?aL ?_; (case aL => simp only [List.length_cons, List.length_nil]; ((try have hHL3 := HL3.out); (try have hHLY := HLY.out); (try have hHL10 := HL10.out); (try have hHLZ := HLZ.out); (try have hHL13 := HL13.out); (try have hHL14 := HL14.out); (try have hHL16 := HL16.out); (try have hHL17 := HL17.out); (try have hHL19 := HL19.out); (try have hHL21 := HL21.out); (try have hHLU := HLU.out); (try have hHL23 := HL23.out)); omega); (case aR => exact HLC.out); (case aO => exact H18.out.1.ob); intro va wa ho hg hat; obtain ⟨y19, hy⟩ : ∃ y, y17 ++ [x9 % 256, x10 % 256] = y := ⟨_, rfl⟩; rw [hy] at ho; obtain ⟨A19, a19, rfl, hc⟩ := ho.reads; have H19 := Aside0.mk (And.intro (H18.out.1.app ho hg) (blk_grown H18.out.2 hg (Kd.R_ne H18.out.1.ob.r H18.out.2 (by decide)))); have HC19 := Aside0.mk hc; have HL19 := Aside0.mk (show y19.length = y17.length + 2 from (by rw [← hy]; simp)); have Y19 := Aside0.mk hy; clear hy hc g0 g1 g2 g3 g4 g5 g6 g7 g8 g9 g10; have g0 := (blk_cell H19.out.2 0).trans (show _ = some (.int .i64 x0) from rfl); have g1 := (blk_cell H19.out.2 1).trans (show _ = some (.int .i64 x1) from rfl); have g2 := (blk_cell H19.out.2 2).trans (show _ = some (.int .i64 x2) from rfl); have g3 := (blk_cell H19.out.2 3).trans (show _ = some (.int .i64 xx3) from rfl); have g4 := (blk_cell H19.out.2 4).trans (show _ = some (.int .i64 x4) from rfl); have g5 := (blk_cell H19.out.2 5).trans (show _ = some (.int .i64 x5) from rfl); have g6 := (blk_cell H19.out.2 6).trans (show _ = some (.int .i64 x6) from rfl); have g7 := (blk_cell H19.out.2 7).trans (show _ = some (.int .i64 x7) from rfl); have g8 := (blk_cell H19.out.2 8).trans (show _ = some (.int .i64 x8) from rfl); have g9 := (blk_cell H19.out.2 9).trans (show _ = some (.int .i64 x9) from rfl); have g10 := (blk_cell H19.out.2 10).trans (show _ = some (.int .i64 x10) from rfl); clear ho hg hat))
            have HEQ : Aside0 (y19 = y10 ++ (C.ks.take (j + 1)).flatMap encK) := ⟨by rw [← Y19.out, ← Y17.out, ← Y16.out, ← Y14.out, ← Y13.out, HZ.out, HTF.out]; simp [encK, k1, k2, Wi.putB]⟩
            go_roundw
            case rel => exact ⟨j + 1, y19, by go_num, by omega, ⟨H19.out.1⟩, HEQ, ⟨by ((try have hHL3 := HL3.out); (try have hHLY := HLY.out); (try have hHL10 := HL10.out); (try have hHLZ := HLZ.out); (try have hHL13 := HL13.out); (try have hHL14 := HL14.out); (try have hHL16 := HL16.out); (try have hHL17 := HL17.out); (try have hHL19 := HL19.out); (try have hHL21 := HL21.out); (try have hHLU := HLU.out); (try have hHL23 := HL23.out)); omega⟩⟩
            case measure => simp [intOf]; omega
          · have d1 : decide ((j : Int) < (C.ks.length : Int)) = false := decide_eq_false (by omega)
            have d1n : decide (j < C.ks.length) = false := decide_eq_false hlt
            obtain rfl : j = C.ks.length := by omega
            rw [List.take_length] at HZ
            go_upto_region 24 with (first | (rw [Wi.wrap8]) | ((with_reducible refine gate_dst (N := 122) rfl ?_); refine Wi.lit_ints (k := .u8) (e := 5) ?hg (N := 122) ?hd [(C.ac.length : Int)] #[.int .u8 ((C.ac.length : Int))] ?hr ?hi ?hm ?_; (case hd => rfl); (case hg => rfl); (case hr => first | (go_simp; done) | (go_simp; rfl)); (case hi => rfl); (case hm => simp); intro D wl hC hO; have HLC := Aside0.mk hC; have HLO := Aside0.mk hO; have H20 := Aside0.mk (HI.out.far hO.bel); clear hC hO) | ((with_reducible refine gate_builtin (b := .append) (xs := #[.tmp 117, .tmp 122]) rfl ?_); at_builtin; refine Wi.app_ints (k := .u8) (w0 := w) rfl (.tmp 117) (.tmp 122) 29 1 rfl Tryd.underlying29 Wi.info8 (by decide) (by decide) _ zs [(C.ac.length : Int)] _ _ _ rfl rfl rfl ?aO ?aR ?aL ?_; (case aL => simp only [List.length_cons, List.length_nil]; ((try have hHL3 := HL3.out); (try have hHLY := HLY.out); (try have hHL10 := HL10.out); (try have hHLZ := HLZ.out); (try have hHL13 := HL13.out); (try have hHL14 := HL14.out); (try have hHL16 := HL16.out); (try have hHL17 := HL17.out); (try have hHL19 := HL19.out); (try have hHL21 := HL21.out); (try have hHLU := HLU.out); (try have hHL23 := HL23.out)); omega); (case aR => exact HLC.out); (case aO => exact H20.out.ob); intro va wa ho hg hat; obtain ⟨y21, hy⟩ : ∃ y, zs ++ [(C.ac.length : Int)] = y := ⟨_, rfl⟩; rw [hy] at ho; obtain ⟨A21, a21, rfl, hc⟩ := ho.reads; have H21 := Aside0.mk (H20.out.app ho hg); have HC21 := Aside0.mk hc; have HL21 := Aside0.mk (show y21.length = zs.length + 1 from (by rw [← hy]; simp)); have Y21 := Aside0.mk hy; clear hy hc; clear ho hg hat))
            clear HI H20 HLC HLO b0 b1 b2 b3 b4
            go_wp2
            go_loopw [5, 11] (fun v5 v11 wr => ∃ (j : Nat) (ys : List Int), v11 = .int .i64 j ∧ j ≤ C.ac.length ∧ Aside0 (RE w wr #[.int .i64 C.p, .int .i64 C.f, .slice A2 C.ws.length c2, .slice A3 C.ks.length c3, .slice A4 C.ac.length c4] v5 ys) ∧ Aside0 (ys = y21 ++ (C.ac.take j).flatMap (Wi.putB 1)) ∧ Aside0 (ys.length = y21.length + j)) (fun _ v11 _ => C.ac.length - (intOf v11).toNat)
            case atStart => exact ⟨0, y21, rfl, by omega, H21, ⟨by simp⟩, ⟨by omega⟩⟩
            case round =>
              clear H21 HC21 d1 d1n hlt hj
              rename_i gv5c gv11
              obtain ⟨j, us, rfl, hj, HI, HU, HLU⟩ := hrel
              have b0 := (blk_cell HI.out.bx 0).trans (show _ = some (.int .i64 C.p) from rfl)
              have b1 := (blk_cell HI.out.bx 1).trans (show _ = some (.int .i64 C.f) from rfl)
              have b2 := (blk_cell HI.out.bx 2).trans (show _ = some (.slice A2 C.ws.length c2) from rfl)
              have b3 := (blk_cell HI.out.bx 3).trans (show _ = some (.slice A3 C.ks.length c3) from rfl)
              have b4 := (blk_cell HI.out.bx 4).trans (show _ = some (.slice A4 C.ac.length c4) from rfl)
              by_cases hlt : j < C.ac.length
              · have d1 : decide ((j : Int) < (C.ac.length : Int)) = true := decide_eq_true (by omega)
                have d1n : decide (j < C.ac.length) = true := decide_eq_true hlt
                have hj0 : 0 ≤ (j : Int) := by omega
                have hj1 : (j : Int) < C.ac.length := by omega
                obtain ⟨ad, rfl, e0⟩ := Kd.at_int (Kd.C_below HX.out.a HI.out.ob.bel) (j : Int) hj0 hj1
                rw [show rd C.ac (j : Int) = C.ac[j] by simp [rd, hlt], Int.toNat_natCast] at e0
                have htf := take_flat (Wi.putB 1) hlt
                generalize C.ac[j] = u at e0 htf
                have HTF := Aside0.mk htf
                clear htf
                go_wp2_with (first | (rw [Wi.wrap8]) | ((with_reducible refine gate_dst (N := 138) rfl ?_); refine Wi.lit_ints (k := .u8) (e := 5) ?hg (N := 138) ?hd [u % 256] #[.int .u8 (u % 256)] ?hr ?hi ?hm ?_; (case hd => rfl); (case hg => rfl); (case hr => first | (go_simp; done) | (go_simp; rfl)); (case hi => rfl); (case hm => simp); intro D wl hC hO; have HLC := Aside0.mk hC; have HLO := Aside0.mk hO; have H22 := Aside0.mk (HI.out.far hO.bel); clear hC hO) | ((with_reducible refine gate_builtin (b := .append) (xs := #[.tmp 131, .tmp 138]) rfl ?_); at_builtin; refine Wi.app_ints (k := .u8) (w0 := w) rfl (.tmp 131) (.tmp 138) 29 1 rfl Tryd.underlying29 Wi.info8 (by decide) (by decide) _ us [u % 256] _ _ _ rfl rfl rfl ?aO ?aR ?aL ?_; (case aL => simp only [List.length_cons, List.length_nil]; ((try have hHL3 := HL3.out); (try have hHLY := HLY.out); (try have hHL10 := HL10.out); (try have hHLZ := HLZ.out); (try have hHL13 := HL13.out); (try have hHL14 := HL14.out); (try have hHL16 := HL16.out); (try have hHL17 := HL17.out); (try have hHL19 := HL19.out); (try have hHL21 := HL21.out); (try have hHLU := HLU.out); (try have hHL23 := HL23.out)); omega); (case aR => exact HLC.out); (case aO => exact H22.out.ob); intro va wa ho hg hat; obtain ⟨y23, hy⟩ : ∃ y, us ++ [u % 256] = y := ⟨_, rfl⟩; rw [hy] at ho; obtain ⟨A23, a23, rfl, hc⟩ := ho.reads; have H23 := Aside0.mk (H22.out.app ho hg); have HC23 := Aside0.mk hc; have HL23 := Aside0.mk (show y23.length = us.length + 1 from (by rw [← hy]; simp)); have Y23 := Aside0.mk hy; clear hy hc; clear ho hg hat))
                have HEQ : Aside0 (y23 = y21 ++ (C.ac.take (j + 1)).flatMap (Wi.putB 1)) := ⟨by rw [← Y23.out, HU.out, HTF.out]; simp [Wi.putB]⟩
                go_roundw
                case rel => exact ⟨j + 1, y23, by go_num, by omega, H23, HEQ, ⟨by ((try have hHL3 := HL3.out); (try have hHLY := HLY.out); (try have hHL10 := HL10.out); (try have hHLZ := HLZ.out); (try have hHL13 := HL13.out); (try have hHL14 := HL14.out); (try have hHL16 := HL16.out); (try have hHL17 := HL17.out); (try have hHL19 := HL19.out); (try have hHL21 := HL21.out); (try have hHLU := HLU.out); (try have hHL23 := HL23.out)); omega⟩⟩
                case measure => simp [intOf]; omega
              · have d1 : decide ((j : Int) < (C.ac.length : Int)) = false := decide_eq_false (by omega)
                have d1n : decide (j < C.ac.length) = false := decide_eq_false hlt
                obtain rfl : j = C.ac.length := by omega
                rw [List.take_length] at HU
                have m1 : (C.ws.length : Int) % 256 = C.ws.length := Int.emod_eq_of_lt (by omega) (by omega)
                have m2 : (C.ks.length : Int) % 256 = C.ks.length := Int.emod_eq_of_lt (by omega) (by omega)
                have m3 : (C.ac.length : Int) % 256 = C.ac.length := Int.emod_eq_of_lt (by omega) (by omega)
                have HT : Aside0 (us = tabB C) := ⟨by rw [HU.out, ← Y21.out, HZ.out, ← Y10.out, HY.out, ← X3.out]; unfold tabB encC; rw [show Wi.putB 1 (C.ws.length : Int) = [(C.ws.length : Int)] by simp [Wi.putB, m1], show Wi.putB 1 (C.ks.length : Int) = [(C.ks.length : Int)] by simp [Wi.putB, m2], show Wi.putB 1 (C.ac.length : Int) = [(C.ac.length : Int)] by simp [Wi.putB, m3]]; simp [Wi.putB]⟩
                clear m1 m2 m3
                obtain ⟨A9, a9, rfl, hc9⟩ := HI.out.ob.reads
                have HSE := Aside0.mk (Wi.rSeal_any hc9 (by rw [HT.out]; exact tabB_wf C) (by ((try have hHL3 := HL3.out); (try have hHLY := HLY.out); (try have hHL10 := HL10.out); (try have hHLZ := HLZ.out); (try have hHL13 := HL13.out); (try have hHL14 := HL14.out); (try have hHL16 := HL16.out); (try have hHL17 := HL17.out); (try have hHL19 := HL19.out); (try have hHL21 := HL21.out); (try have hHLU := HLU.out); (try have hHL23 := HL23.out)); omega))
                have HSB : Aside0 (sealB (tabB C) = us ++ Wi.putB 2 (Wi.sumB us)) := ⟨by rw [HT.out]; rfl⟩
                rw [← HSB.out] at HSE
                clear hc9
                go_wp2_with (first | (go_at_call 17; (with_reducible refine HSE.out.mono ?_); rintro e w9 ⟨r, rfl, ho⟩; have HO9 := Aside0.mk ho; clear ho))
                refine bodyPost_ret (results_tmp2 rfl _ _ _) rfl ?_
                exact ⟨r, rfl, HO9.out.less HI.out.ob.bel⟩
end Go.Proofs.YtdebbanloopcgaaDoor.Tb
