/- Layer 13 (window): may; the phases of a frame, in plain words; the iterator. -/
import Derived.RangeFuncNested
import Derived.RangeFuncBound
import Derived.RangeFuncCalls
import Derived.RangeFuncLeaves
import Derived.Shelf.Abstract
import Derived.Shelf.RegionOpen
import Derived.WalkKit
import Derived.OwnWalkIn
import Derived.TacticsInMore
import Derived.LoopNIn
import Derived.LoopIn
import Derived.Test.YtcebmgndniejcaaDoorCfPm
import Derived.Test.YtcebmgndniejcaaDoorSatW
set_option linter.unusedVariables false
set_option linter.unusedSimpArgs false
namespace Go.Proofs.YtcebmgndniejcaaDoor.Wn
open Go Go.RowKit Go.Shelf Go.Proofs.YtcebmgndniejcaaDoorW.PrintWords Go.Proofs.YtcebmgndniejcaaDoorW.PrintLast Go.Proofs.YtcebmgndniejcaaDoorW.PrintMore Go.Proofs.YtcebmgndniejcaaDoor.Cz Go.Proofs.YtcebmgndniejcaaDoor.PBoundWaits Go.Proofs.YtcebmgndniejcaaDoor.Cf
attribute [local go_sem] Tryd.underlying26 Tryd.underlying41 Tryd.underlying52
/-- May a config be? -/
def okB (C : Cfg) : Bool := (chk C).e == 0
/-- The phases of a window, where it is that owner's. -/
def phW (o : Int) (x : S41) : List Int := if x.f0 = o then (List.range x.f2.toNat).map (fun (i : Nat) => x.f1 + (i : Int)) else []
/-- The phases of a frame that are an owner's. -/
def phs (C : Cfg) (o : Int) : List Int := if okB C = true then C.ws.flatMap (phW o) else []
set_option maxHeartbeats 4000000 in
theorem may_any {C : Cfg} {A2 A3 A4 : Option Addr} {c2 c3 c4 : Nat} {w : World} (h : CX w C A2 c2 A3 c3 A4 c4) (hg : LG w) (hk : C.ks.length ≤ 1000) (ha : C.ac.length ≤ 1000) (hw : C.ws.length ≤ 1000) :
    Calls Tryd.prog 59 #[.agg #[.int .i64 C.p, .int .i64 C.f, .slice A2 C.ws.length c2, .slice A3 C.ks.length c3, .slice A4 C.ac.length c4]] w fun e w' => e = .returned (.bool (okB C)) ∧ Below w.heap.size w w' := by
  have hb1 := below_alloc (Below.refl w.heap.size w) (.cells #[.int .i64 C.p, .int .i64 C.f, .slice A2 C.ws.length c2, .slice A3 C.ks.length c3, .slice A4 C.ac.length c4] 26)
  have HC := Aside0.mk (check_any (h.below hb1) (hg.below hb1) hk ha hw)
  unfold okB
  generalize (chk C).e = ec at HC ⊢
  generalize (chk C).a = ea at HC
  generalize (chk C).b = eb at HC
  clear h hg hb1
  go_enter Tryd.func59, Tryd.ntmps59
  go_wp2_with (first | (go_at_call 35; refine HC.out.mono ?_; rintro e w2 ⟨rfl, hb⟩; have HB := Aside0.mk (below_step (below_alloc (Below.refl w.heap.size w) _) hb); clear hb))
  go_ret
  exact ⟨rfl, below_alloc HB.out _⟩
/-- What a round keeps: blocks of cells, but those of S. -/
def KB (S : Nat → Prop) (W W' : World) : Prop := W.heap.size ≤ W'.heap.size ∧ ∀ (k : Nat) (cs : Array Value) (t : TypeId) (fr : Nat × Nat), W.heap[k]? = some (.cells cs t fr) → ¬ S k → W'.heap[k]? = some (.cells cs t fr)
section
variable {S : Nat → Prop} {W W' W2 : World} {m : Nat}
theorem KB.refl (W : World) : KB S W W := ⟨Nat.le_refl _, fun _ _ _ _ h _ => h⟩
theorem KB.trans (h : KB S W W') (k : KB S W' W2) : KB S W W2 := ⟨Nat.le_trans h.1 k.1, fun i cs t fr hi hs => k.2 i cs t fr (h.2 i cs t fr hi hs) hs⟩
theorem KB.put (W : World) {g : Nat} (hg : S g) (j : Nat) (v : Value) : KB S W (W.setCell ⟨g, j, none⟩ v) :=
  ⟨by rw [World.size_setCell]; exact Nat.le_refl _, fun k cs t fr hk hs => (Below.heap_setCell W ⟨g, j, none⟩ v k (by rintro rfl; exact hs hg)).trans hk⟩
theorem KB.below (hb : Below W.heap.size W W') : KB S W W' := ⟨hb.size, fun k cs t fr hk _ => (hb.block k (blk_lt hk)).trans hk⟩
theorem KB.obj (W : World) (l : Nat) (o o' : Obj) (h : W.heap[l]? = some o) (hc : o.isCells = false) : KB S W (W.putObj l o') := by
  have hg := grownBy_putObj' W l o'
  refine ⟨hg.size, fun k cs t fr hk hs => (hg.block k (blk_lt hk) ?_).trans hk⟩
  intro e
  cases e
  rw [h] at hk
  cases hk
  cases hc
end
/-! The phases, in plain words. -/
theorem okB_e {C : Cfg} (h : okB C = true) : (chk C).e = 0 := beq_iff_eq.1 h
theorem scan_in {p f : Int} (hf : f ≤ 64) : ∀ {en : Int} {i : Nat} {l : List S41}, scanW p f en i l = none → 0 ≤ en → ∀ x ∈ l, (0 ≤ x.f1 ∧ 1 ≤ x.f2 ∧ x.f1 + x.f2 ≤ f) ∧ en ≤ x.f1
  | en, i, [], _, _, x, hx => by cases hx
  | en, i, y :: t, h, he, x, hx => by
    have h' : (if badW p f en y = true then some i else scanW p f (y.f1 + y.f2) (i + 1) t) = none := h
    cases hb : badW p f en y
    · rw [hb, if_neg (by decide)] at h'
      unfold badW at hb
      simp only [Bool.or_eq_false_iff, Bool.not_eq_false', decide_eq_false_iff_not] at hb
      rcases List.mem_cons.1 hx with rfl | hx
      · exact ⟨⟨by omega, by omega, by omega⟩, by omega⟩
      · have := scan_in hf h' (by omega) x hx
        exact ⟨this.1, by omega⟩
    · rw [hb, if_pos rfl] at h'
      cases h'
theorem ok_hd {C : Cfg} (h : okB C = true) : (1 ≤ C.p ∧ C.p ≤ 4) ∧ (1 ≤ C.f ∧ C.f ≤ 64) ∧ (1 ≤ (C.ws.length : Int) ∧ (C.ws.length : Int) ≤ 8) := hd_none (chk_ok (okB_e h)).1
theorem ok_scan {C : Cfg} (h : okB C = true) : scanW C.p C.f 0 0 C.ws = none := by
  have h2 := (chk_ok (okB_e h)).2
  unfold ls at h2
  cases h3 : scanW C.p C.f 0 0 C.ws
  · rfl
  · rw [h3] at h2
    cases h2
theorem ok_win {C : Cfg} (h : okB C = true) : ∀ x ∈ C.ws, 0 ≤ x.f1 ∧ 1 ≤ x.f2 ∧ x.f1 + x.f2 ≤ C.f := fun x hx => (scan_in (ok_hd h).2.1.2 (ok_scan h) (Int.le_refl _) x hx).1
def up (C : Cfg) (o : Int) (j : Nat) : List Int := (C.ws.take j).flatMap (phW o)
theorem up_zero (C : Cfg) (o : Int) : up C o 0 = [] := rfl
theorem up_succ {C : Cfg} {o : Int} {j : Nat} (h : j < C.ws.length) : up C o (j + 1) = up C o j ++ phW o C.ws[j] := by
  unfold up
  rw [List.take_succ_eq_append_getElem h, List.flatMap_append]
  simp
theorem up_all {C : Cfg} {o : Int} (h : okB C = true) {j : Nat} (hj : C.ws.length ≤ j) : up C o j = phs C o := by
  unfold up phs
  rw [if_pos h, List.take_of_length_le hj]
theorem phs_split {C : Cfg} {o : Int} (h : okB C = true) {j : Nat} (hj : j < C.ws.length) : ∃ r, phs C o = up C o j ++ (phW o C.ws[j] ++ r) := by
  refine ⟨(C.ws.drop (j + 1)).flatMap (phW o), ?_⟩
  unfold phs up
  rw [if_pos h, ← List.append_assoc]
  have : C.ws = C.ws.take j ++ (C.ws[j] :: C.ws.drop (j + 1)) := by rw [← List.drop_eq_getElem_cons hj, List.take_append_drop]
  rw [show C.ws.flatMap (phW o) = (C.ws.take j ++ (C.ws[j] :: C.ws.drop (j + 1))).flatMap (phW o) by rw [← this], List.flatMap_append, List.flatMap_cons, List.append_assoc]
theorem phW_no {o : Int} {x : S41} (h : x.f0 ≠ o) : phW o x = [] := by unfold phW; rw [if_neg h]
theorem phW_len {o : Int} {x : S41} (h : x.f0 = o) : (phW o x).length = x.f2.toNat := by unfold phW; rw [if_pos h]; simp
theorem phW_all {o : Int} {x : S41} {i : Nat} (hi : ¬ (i : Int) < x.f2) : (phW o x).take i = phW o x := by
  refine List.take_of_length_le ?_
  by_cases h : x.f0 = o
  · rw [phW_len h]
    omega
  · rw [phW_no h]
    simp
theorem phW_take {o : Int} {x : S41} (h : x.f0 = o) {i : Nat} (hi : (i : Int) < x.f2) : (phW o x).take (i + 1) = (phW o x).take i ++ [x.f1 + (i : Int)] := by
  rw [List.take_succ_eq_append_getElem (by rw [phW_len h]; omega)]
  congr 2
  unfold phW
  simp [h]
theorem ab {β : Type} {B : Nat} {J : β → World → Prop} {s : β} {W W' : World} (hJ : AbidesFrom B J) (h : J s W) (hb : Below W.heap.size W W') : J s W' :=
  hJ s W W' none h ⟨hb.os, hb.tape, hb.output, hb.size, fun k hk _ => hb.block k hk⟩ (fun r e => by cases e)
/-- The iterator's memory: the config's block, the owner's. -/
structure PhI (wE W : World) (cv : Array Value) (o : Int) (pb ob : Nat) : Prop where
  bel : Below wE.heap.size wE W
  bp : W.heap[pb]? = some (.cells cv 26 (0, 0))
  bo : W.heap[ob]? = some (.cells #[.int .i64 o] 3 (0, 0))
theorem PhI.far {wE W W' : World} {cv : Array Value} {o : Int} {pb ob : Nat} (h : PhI wE W cv o pb ob) (hb : Below W.heap.size W W') : PhI wE W' cv o pb ob := ⟨below_step h.bel hb, blk_below h.bp hb, blk_below h.bo hb⟩
def Kp (S : Nat → Prop) (wE W W' : World) : Prop := Below wE.heap.size W W' ∧ KB S W W'
theorem PhI.kp {S : Nat → Prop} {wE W W' : World} {cv : Array Value} {o : Int} {pb ob : Nat} (h : PhI wE W cv o pb ob) (hp : ¬ S pb) (ho : ¬ S ob) (hk : Kp S wE W W') : PhI wE W' cv o pb ob :=
  ⟨h.bel.trans hk.1, hk.2.2 _ _ _ _ h.bp hp, hk.2.2 _ _ _ _ h.bo ho⟩
attribute [local go_sem] Oper.semAt_some
set_option maxHeartbeats 8000000 in
set_option maxRecDepth 100000 in
theorem phases1_in {C : Cfg} {A2 A3 A4 : Option Addr} {c2 c3 c4 : Nat} {wE : World} (hX : CX wE C A2 c2 A3 c3 A4 c4) (hg : LG wE) (lk : C.ks.length ≤ 1000) (la : C.ac.length ≤ 1000) (lw : C.ws.length ≤ 1000)
    (o : Int) (S : Nat → Prop) (n l pb ob N : Nat) (hn : 1 ≤ n) (hN : (phs C o).length ≤ N) (hnp : ¬ S pb) (hno : ¬ S ob) (J Jx : List Int → World → Prop) (W : World) (hW : PhI wE W #[.int .i64 C.p, .int .i64 C.f, .slice A2 C.ws.length c2, .slice A3 C.ks.length c3, .slice A4 C.ac.length c4] o pb ob) (hS : ∀ k, S k → k < W.heap.size)
    (hJ : AbidesFrom W.heap.size J) (hY : ∀ pre x W1, x ∈ phs C o → J pre W1 → pre.length < N → YieldAt Fence.wide (n - 1) Tryd.prog l #[.int .i64 x] W1 fun e W' =>
      (e = .returned (.bool true) ∧ J (pre ++ [x]) W' ∧ Kp S wE W1 W') ∨ (e = .returned (.bool false) ∧ Jx (pre ++ [x]) W')) (h0 : J [] W) :
    CallsIn Fence.wide n Tryd.prog 58 #[.func (.yield l) #[] #[], .pointer (some ⟨pb, 0, none⟩), .pointer (some ⟨ob, 0, none⟩)] W fun e W' => (∃ v, e = .returned v) ∧
      ((∃ ys, ys = phs C o ∧ J ys W') ∨ (∃ pre, pre <+: phs C o ∧ Jx pre W')) := by
  have HX := Aside0.mk hX
  have HG := Aside0.mk hg
  have HJ := Aside0.mk hJ
  have HY := Aside0.mk hY
  have HW := Aside0.mk hW
  have HM := Aside0.mk (may_any (hX.below hW.bel) (hg.below hW.bel) lk la lw)
  have b0 := (blk_cell hW.bp 0).trans (show _ = some (.int .i64 C.p) from rfl)
  have b1 := (blk_cell hW.bp 1).trans (show _ = some (.int .i64 C.f) from rfl)
  have b2 := (blk_cell hW.bp 2).trans (show _ = some (.slice A2 C.ws.length c2) from rfl)
  have b3 := (blk_cell hW.bp 3).trans (show _ = some (.slice A3 C.ks.length c3) from rfl)
  have b4 := (blk_cell hW.bp 4).trans (show _ = some (.slice A4 C.ac.length c4) from rfl)
  have H0 := Aside0.mk h0
  clear hX hg hJ hY hW h0
  refine callsIn_of_wp Tryd.func58 rfl trivial ?_ rfl
  simp only [Tryd.ntmps58, List.size_toArray, List.length_cons, List.length_nil, Nat.reduceAdd, Nat.reduceSub, Array.replicate_succ, Array.replicate_zero, List.push_toArray, List.append_toArray, List.nil_append, List.cons_append]
  cases hok : okB C
  · rw [hok] at HM
    have hp0 : phs C o = [] := by unfold phs; rw [hok, if_neg (by decide)]
    have HP0 := Aside0.mk hp0
    clear hok hp0
    gi_wp2_with (first | (gi_at_call 59; refine (callsIn_wide.2 HM.out).mono ?_; rintro e w2 ⟨rfl, hb⟩; have HB := Aside0.mk hb; clear hb) | (refine ⟨trivial, ?_⟩; gi_at_call 59; refine (callsIn_wide.2 HM.out).mono ?_; rintro e w2 ⟨rfl, hb⟩; have HB := Aside0.mk hb; clear hb))
    refine bodyPost_ret (results_none rfl _ _ _) rfl ?_
    exact ⟨⟨_, rfl⟩, .inl ⟨_, HP0.out.symm, ab HJ.out H0.out HB.out⟩⟩
  · rw [hok] at HM
    have HOK := Aside0.mk hok
    clear hok
    gi_wp2_with (first | (gi_at_call 59; refine (callsIn_wide.2 HM.out).mono ?_; rintro e w2 ⟨rfl, hb⟩; have HB := Aside0.mk hb; clear hb b0 b1 b2 b3 b4; have b2 := (blk_cell (HW.out.far HB.out).bp 2).trans (show _ = some (.slice A2 C.ws.length c2) from rfl)) | (refine ⟨trivial, ?_⟩; gi_at_call 59; refine (callsIn_wide.2 HM.out).mono ?_; rintro e w2 ⟨rfl, hb⟩; have HB := Aside0.mk hb; clear hb b0 b1 b2 b3 b4; have b2 := (blk_cell (HW.out.far HB.out).bp 2).trans (show _ = some (.slice A2 C.ws.length c2) from rfl)))
    have HS2 := Aside0.mk (fun k (hk : S k) => Nat.lt_of_lt_of_le (hS k hk) HB.out.size)
    clear b2 hS
    gi_loopw [13] (fun v13 wr => ∃ j : Nat, v13 = .int .i64 j ∧ j ≤ C.ws.length ∧ Aside0 (J (up C o j) wr) ∧ Aside0 (PhI wE wr #[.int .i64 C.p, .int .i64 C.f, .slice A2 C.ws.length c2, .slice A3 C.ks.length c3, .slice A4 C.ac.length c4] o pb ob ∧ w2.heap.size ≤ wr.heap.size)) (fun v13 _ => C.ws.length - (intOf v13).toNat)
    case atStart => exact ⟨0, rfl, by omega, ⟨by rw [up_zero]; exact ab HJ.out H0.out HB.out⟩, ⟨HW.out.far HB.out, Nat.le_refl _⟩⟩
    case round =>
      clear H0 HW
      obtain ⟨j, rfl, hj, HJJ, HW⟩ := hrel
      by_cases hlt : j < C.ws.length
      · have d1 : decide ((j : Int) < (C.ws.length : Int)) = true := decide_eq_true (by omega)
        have d1n : decide (j < C.ws.length) = true := decide_eq_true hlt
        have hcs := at_T41 (Kd.C_below HX.out.w HW.out.1.bel) (j : Int) (by omega) (by omega)
        rw [show rd_T41 C.ws (j : Int) = C.ws[j] by simp [rd_T41, hlt], Int.toNat_natCast] at hcs
        have HWN := Aside0.mk (ok_win HOK.out _ (List.getElem_mem hlt))
        have HF := Aside0.mk (ok_hd HOK.out).2.1
        have HUP := Aside0.mk (up_succ (o := o) hlt)
        have HSP := Aside0.mk (phs_split (o := o) HOK.out hlt)
        generalize C.ws[j] = x at hcs HWN HUP HSP
        obtain ⟨ad, hA2, e0, e1, e2⟩ := hcs
        subst hA2
        have hj0 : 0 ≤ (j : Int) := by omega
        have hj1 : (j : Int) < C.ws.length := by omega
        gi_wp2
        have hbx := below_alloc (Below.refl wr.heap.size wr) (.cells #[.int .i64 x.f0, .int .i64 x.f1, .int .i64 x.f2] 41)
        have I3 := And.intro (ab HJ.out HJJ.out hbx) (And.intro (HW.out.1.far hbx) (And.intro (Nat.le_trans HW.out.2 hbx.size) (blk_new wr (.cells #[.int .i64 x.f0, .int .i64 x.f1, .int .i64 x.f2] 41))))
        have HBB : Aside0 (w2.heap.size ≤ wr.heap.size) := ⟨HW.out.2⟩
        clear hbx HJJ HW e0 e1 e2 d1 d1n
        revert I3
        generalize (wr.alloc (.cells #[.int .i64 x.f0, .int .i64 x.f1, .int .i64 x.f2] 41)) = W3
        generalize wr.heap.size = bb at HBB ⊢
        intro I3
        have HI3 := Aside0.mk I3
        clear I3
        have HNS : Aside0 (¬ S bb) := ⟨fun hs => by have := HS2.out bb hs; have := HBB.out; omega⟩
        gi_loopw [19] (fun v19 wr => ∃ i : Nat, v19 = .int .i64 i ∧ (i : Int) ≤ x.f2 ∧ Aside0 (J (up C o j ++ (phW o x).take i) wr) ∧ Aside0 (PhI wE wr #[.int .i64 C.p, .int .i64 C.f, .slice (some ad) C.ws.length c2, .slice A3 C.ks.length c3, .slice A4 C.ac.length c4] o pb ob ∧ w2.heap.size ≤ wr.heap.size ∧ wr.heap[bb]? = some (.cells #[.int .i64 x.f0, .int .i64 x.f1, .int .i64 x.f2] 41 (0, 0)))) (fun v19 _ => x.f2.toNat - (intOf v19).toNat)
        case atStart => exact ⟨0, rfl, by have := HWN.out; omega, ⟨by simpa using HI3.out.1⟩, ⟨HI3.out.2.1, HI3.out.2.2.1, HI3.out.2.2.2⟩⟩
        case round =>
          clear HI3
          obtain ⟨i, rfl, hi, HJJ, HW⟩ := hrel
          have q0 := (blk_cell HW.out.2.2 0).trans (show _ = some (.int .i64 x.f0) from rfl)
          have q1 := (blk_cell HW.out.2.2 1).trans (show _ = some (.int .i64 x.f1) from rfl)
          have q2 := (blk_cell HW.out.2.2 2).trans (show _ = some (.int .i64 x.f2) from rfl)
          have oc := (blk_cell HW.out.1.bo 0).trans (show _ = some (.int .i64 o) from rfl)
          have b2 := (blk_cell HW.out.1.bp 2).trans (show _ = some (.slice (some ad) C.ws.length c2) from rfl)
          by_cases hlx : (i : Int) < x.f2
          · have d2 : decide ((i : Int) < x.f2) = true := decide_eq_true hlx
            have i0 : 0 ≤ (i : Int) := by omega
            have x1a : 0 ≤ x.f1 := HWN.out.1
            have x1b : x.f1 + i ≤ 64 := by have := HWN.out; have := HF.out; omega
            by_cases ho : x.f0 = o
            · have d3 : decide (x.f0 = o) = true := decide_eq_true ho
              have d3b : (x.f0 == o) = true := beq_iff_eq.mpr ho
              have hlen : (up C o j ++ (phW o x).take i).length < N := by
                obtain ⟨r, hr⟩ := HSP.out
                have h1 := congrArg List.length hr
                rw [List.length_append, List.length_append, phW_len ho] at h1
                rw [List.length_append, List.length_take, phW_len ho]
                omega
              have hmem : x.f1 + (i : Int) ∈ phs C o := by
                obtain ⟨r, hr⟩ := HSP.out
                rw [hr]
                refine List.mem_append_right _ (List.mem_append_left _ ?_)
                unfold phW
                rw [if_pos ho]
                exact List.mem_map.2 ⟨i, List.mem_range.2 (by omega), rfl⟩
              obtain ⟨fn, tmps, assign, body, hy, hR⟩ := HY.out _ (x.f1 + (i : Int)) wr hmem HJJ.out hlen
              have HO := Aside0.mk ho
              have HLX := Aside0.mk hlx
              clear ho hlen hmem
              gi_wp2
              refine hR.mono ?_
              rintro e W4 (⟨rfl, hJ4, hk4⟩ | ⟨rfl, hJx4⟩)
              · have HJ4 := Aside0.mk hJ4
                have HW4 := Aside0.mk (And.intro (HW.out.1.kp hnp hno hk4) (And.intro (Nat.le_trans HW.out.2.1 hk4.2.1) (hk4.2.2 _ _ _ _ HW.out.2.2 HNS.out)))
                clear hJ4 hk4 q0 q1 q2 oc b2 hy hR
                gi_wp2
                go_roundw
                case rel => exact ⟨i + 1, by go_num, by omega, ⟨by rw [phW_take HO.out HLX.out, ← List.append_assoc]; exact HJ4.out⟩, HW4⟩
                case measure => simp [intOf]; omega
              · have HJx4 := Aside0.mk hJx4
                clear hJx4
                gi_wp2
                refine bodyPost_ret (results_none rfl _ _ _) rfl ?_
                refine ⟨⟨_, rfl⟩, .inr ⟨_, ?_, HJx4.out⟩⟩
                obtain ⟨r, hr⟩ := HSP.out
                rw [List.append_assoc, ← phW_take HO.out HLX.out, hr]
                refine ⟨(phW o x).drop (i + 1) ++ r, ?_⟩
                rw [List.append_assoc, ← List.append_assoc (List.take _ _), List.take_append_drop]
            · have d3 : decide (x.f0 = o) = false := decide_eq_false ho
              have d3b : (x.f0 == o) = false := beq_eq_false_iff_ne.mpr ho
              have HE : Aside0 (phW o x = []) := ⟨phW_no ho⟩
              clear ho
              gi_wp2
              refine ⟨fun _ h => (by cases h), ?_⟩
              gi_wp2
              go_roundw
              case rel => exact ⟨i + 1, by go_num, by omega, ⟨by have := HJJ.out; rw [HE.out] at this ⊢; simpa using this⟩, HW⟩
              case measure => simp [intOf]; omega
          · have d2 : decide ((i : Int) < x.f2) = false := decide_eq_false hlx
            have HT : Aside0 ((phW o x).take i = phW o x) := ⟨phW_all hlx⟩
            clear hlx
            gi_wp2
            go_roundw
            case rel => exact ⟨j + 1, by go_num, by omega, ⟨by rw [HUP.out, ← HT.out]; exact HJJ.out⟩, ⟨HW.out.1, HW.out.2.1⟩⟩
            case measure => simp [intOf]; omega
      · have d1 : decide ((j : Int) < (C.ws.length : Int)) = false := decide_eq_false (by omega)
        have d1n : decide (j < C.ws.length) = false := decide_eq_false hlt
        gi_wp2
        go_end0
        exact ⟨⟨_, rfl⟩, .inl ⟨_, up_all HOK.out (by omega), HJJ.out⟩⟩
end Go.Proofs.YtcebmgndniejcaaDoor.Wn
