/- Layer 13 (window): Until. -/
import Derived.Test.YtmmkbgilcggkkaaDoorWb
set_option linter.unusedVariables false
set_option linter.unusedSimpArgs false
namespace Go.Proofs.YtmmkbgilcggkkaaDoor.Wn
open Go Go.RowKit Go.Shelf Go.Proofs.YtmmkbgilcggkkaaDoorW.PrintWords Go.Proofs.YtmmkbgilcggkkaaDoorW.PrintLast Go.Proofs.YtmmkbgilcggkkaaDoorW.PrintMore Go.Proofs.YtmmkbgilcggkkaaDoor.Cz Go.Proofs.YtmmkbgilcggkkaaDoor.PWindowCalls Go.Proofs.YtmmkbgilcggkkaaDoor.Cf Go.Proofs.YtmmkbgilcggkkaaDoor.Sat
attribute [local go_sem] Tryd.underlying26 Tryd.underlying41
theorem heap6 (w : World) (o1 o2 o3 o4 o5 o6 : Obj) : Below w.heap.size w ((((((w.alloc o1).alloc o2).alloc o3).alloc o4).alloc o5).alloc o6) ∧ ((((((w.alloc o1).alloc o2).alloc o3).alloc o4).alloc o5).alloc o6).heap.size = w.heap.size + 1 + 1 + 1 + 1 + 1 + 1 ∧
    ((((((w.alloc o1).alloc o2).alloc o3).alloc o4).alloc o5).alloc o6).heap[w.heap.size]? = some o1 ∧ ((((((w.alloc o1).alloc o2).alloc o3).alloc o4).alloc o5).alloc o6).heap[w.heap.size + 1]? = some o2 ∧ ((((((w.alloc o1).alloc o2).alloc o3).alloc o4).alloc o5).alloc o6).heap[w.heap.size + 1 + 1]? = some o3 ∧
    ((((((w.alloc o1).alloc o2).alloc o3).alloc o4).alloc o5).alloc o6).heap[w.heap.size + 1 + 1 + 1]? = some o4 ∧ ((((((w.alloc o1).alloc o2).alloc o3).alloc o4).alloc o5).alloc o6).heap[w.heap.size + 1 + 1 + 1 + 1]? = some o5 ∧ ((((((w.alloc o1).alloc o2).alloc o3).alloc o4).alloc o5).alloc o6).heap[w.heap.size + 1 + 1 + 1 + 1 + 1]? = some o6 := by
  obtain ⟨h1, h2, h3, h4, h5, h6⟩ := heap5 w o1 o2 o3 o4 o5
  refine ⟨below_alloc h1 _, by rw [World.size_alloc, h2], blk_alloc ?_ _, blk_alloc h3 _, blk_alloc h4 _, blk_alloc h5 _, blk_alloc h6 _, ?_⟩
  · exact blk_alloc (blk_alloc (blk_alloc (blk_alloc (blk_new w o1) o2) o3) o4) o5
  · have := blk_new (((((w.alloc o1).alloc o2).alloc o3).alloc o4).alloc o5) o6
    rw [h2] at this
    exact this
/-- The next tick of a phase. -/
def tnext (a F p : Int) : Int := tadd a (gap (cut a) F p)
theorem nextT_any (a F p : Int) (w : World) (hF : 1 ≤ F ∧ F ≤ 64) (hp : 0 ≤ p ∧ p < F) : Calls Tryd.prog 31 #[.int .i64 a, .int .i64 F, .int .i64 p] w fun e w' => e = .returned (.int .i64 (tnext a F p)) ∧ w = w' := next_any a F p w hF hp
/-- The phase of a tick. -/
def phase (C : Cfg) (now : Int) : Int := cut now % fr C.f
/-- The first one of a row, or -1. -/
def fstO : List Int → Int
  | [] => -1
  | x :: _ => x
theorem fstO_snoc {l : List Int} {x : Int} (h : ∀ y ∈ l, 0 ≤ y) : (if fstO l < 0 then x else fstO l) = fstO (l ++ [x]) := by
  cases l with
  | nil => rfl
  | cons y t =>
    have := h y (List.mem_cons_self ..)
    show (if y < 0 then x else y) = y
    rw [if_neg (by omega)]
/-- The first tick from one on that is an owner's. -/
def untilN (C : Cfg) (o now : Int) : Int := match (phs C o).find? (fun p => decide (phase C now ≤ p)) with
  | some p => tnext now C.f p
  | none => if fstO (phs C o) < 0 then -1 else tnext now C.f (fstO (phs C o))
theorem phW_mem {o : Int} {x : S41} {p : Int} (h : p ∈ phW o x) : x.f0 = o ∧ x.f1 ≤ p ∧ p < x.f1 + x.f2 := by
  unfold phW at h
  split at h
  · rename_i ho
    obtain ⟨i, hi, rfl⟩ := List.mem_map.1 h
    have := List.mem_range.1 hi
    exact ⟨ho, by omega, by omega⟩
  · cases h
theorem phs_mem {C : Cfg} {o p : Int} (h : p ∈ phs C o) : okB C = true ∧ 0 ≤ p ∧ p < C.f := by
  unfold phs at h
  split at h
  · rename_i hok
    obtain ⟨x, hx, hp⟩ := List.mem_flatMap.1 h
    have h1 := phW_mem hp
    have h2 := ok_win hok x hx
    exact ⟨hok, by omega, by omega⟩
  · cases h
theorem vals_mem {C : Cfg} {o p : Int} {l : List (PhT C o)} (h : p ∈ vals l) : p ∈ phs C o := by
  obtain ⟨x, _, rfl⟩ := List.mem_map.1 h
  exact x.2
theorem until_stop {C : Cfg} {o now x : Int} {q : List Int} (hp : q ++ [x] <+: phs C o) (hq : ∀ p ∈ q, ¬ phase C now ≤ p) (hx : phase C now ≤ x) : untilN C o now = tnext now C.f x := by
  obtain ⟨r, hr⟩ := hp
  unfold untilN
  rw [← hr, List.append_assoc, List.find?_append, List.find?_eq_none.2 (fun p hp => by simpa using hq p hp)]
  simp [hx]
theorem until_done {C : Cfg} {o now : Int} (hq : ∀ p ∈ phs C o, ¬ phase C now ≤ p) : untilN C o now = if fstO (phs C o) < 0 then -1 else tnext now C.f (fstO (phs C o)) := by
  unfold untilN
  rw [List.find?_eq_none.2 (fun p hp => by simpa using hq p hp)]
theorem fstO_mem {l : List Int} (h : ¬ fstO l < 0) : fstO l ∈ l := by
  cases l with
  | nil => exact absurd (by decide) h
  | cons y t => exact List.mem_cons_self ..
attribute [local go_sem] Oper.semAt_some
set_option maxHeartbeats 8000000 in
set_option maxRecDepth 100000 in
theorem until_any {C : Cfg} {A2 A3 A4 : Option Addr} {c2 c3 c4 : Nat} {w : World} (hX : CX w C A2 c2 A3 c3 A4 c4) (hg : LG w) (lk : C.ks.length ≤ 1000) (la : C.ac.length ≤ 1000) (lw : C.ws.length ≤ 1000) (o now : Int) :
    Calls Tryd.prog 16 #[.agg #[.int .i64 C.p, .int .i64 C.f, .slice A2 C.ws.length c2, .slice A3 C.ks.length c3, .slice A4 C.ac.length c4], .int .i64 o, .int .i64 now] w fun e w' => e = .returned (.int .i64 (untilN C o now)) ∧ Below w.heap.size w w' := by
  have HX := Aside0.mk hX
  have HG := Aside0.mk hg
  clear hX hg
  refine (callsIn_wide (n := 5)).1 ?_
  refine callsIn_of_wp_marks Tryd.func16 rfl trivial ?_ rfl
  simp only [Tryd.ntmps16, List.size_toArray, List.length_cons, List.length_nil, Nat.reduceAdd, Nat.reduceSub, Array.replicate_succ, Array.replicate_zero, List.push_toArray, List.append_toArray, List.nil_append, List.cons_append]
  gi_wp2_with (first | (gi_at_call 30; refine (callsIn_wide.2 (phases_any _ _)).mono ?_; rintro e w' ⟨rfl, rfl⟩) | (refine ⟨trivial, ?_⟩; gi_at_call 30; refine (callsIn_wide.2 (phases_any _ _)).mono ?_; rintro e w' ⟨rfl, rfl⟩))
  have H6 := heap6 w (.cells #[.int .i64 C.p, .int .i64 C.f, .slice A2 C.ws.length c2, .slice A3 C.ks.length c3, .slice A4 C.ac.length c4] 26) (.cells #[.int .i64 now] 3) (.cells #[.int .i64 0] 3) (.cells #[.int .i64 (-1)] 3) (.cells #[.int .i64 C.p, .int .i64 C.f, .slice A2 C.ws.length c2, .slice A3 C.ks.length c3, .slice A4 C.ac.length c4] 26) (.cells #[.int .i64 o] 3)
  revert H6
  generalize ((((((w.alloc (.cells #[.int .i64 C.p, .int .i64 C.f, .slice A2 C.ws.length c2, .slice A3 C.ks.length c3, .slice A4 C.ac.length c4] 26)).alloc (.cells #[.int .i64 now] 3)).alloc (.cells #[.int .i64 0] 3)).alloc (.cells #[.int .i64 (-1)] 3)).alloc (.cells #[.int .i64 C.p, .int .i64 C.f, .slice A2 C.ws.length c2, .slice A3 C.ks.length c3, .slice A4 C.ac.length c4] 26)).alloc (.cells #[.int .i64 o] 3)) = W6
  intro H6
  obtain ⟨hb6, hs6, hc6, hn6, hr6, hf6, hp6, ho6⟩ := H6
  refine wpIn_rangeFunc_ownF rfl (by decide) (gf := 41) (lb := #[.pointer (some ⟨w.heap.size + 1 + 1 + 1 + 1, 0, none⟩), .pointer (some ⟨w.heap.size + 1 + 1 + 1 + 1 + 1, 0, none⟩)]) rfl trivial (enters_of Tryd.func41 (by kernel_rfl) rfl)
    (phases_stops (w0 := W6) HX.out HG.out lk la lw o (fun k => k = w.heap.size + 1 + 1 ∨ k = w.heap.size + 1 + 1 + 1) (5 - 1) (w.heap.size + 1 + 1 + 1 + 1) (w.heap.size + 1 + 1 + 1 + 1 + 1) (by decide) (by omega) (by omega) ⟨hb6, hp6, ho6⟩ (fun k hk => by omega)) Kp.tr (Kp.ob (by omega)) (Below.refl _ _) (fun _ => rfl)
    (fun (pre : List (PhT C o)) W => ((W.heap[w.heap.size]? = some (.cells #[.int .i64 C.p, .int .i64 C.f, .slice A2 C.ws.length c2, .slice A3 C.ks.length c3, .slice A4 C.ac.length c4] 26 (0, 0)) ∧ W.heap[w.heap.size + 1]? = some (.cells #[.int .i64 now] 3 (0, 0)) ∧ W.heap[w.heap.size + 1 + 1]? = some (.cells #[.int .i64 0] 3 (0, 0)) ∧ W.heap[w.heap.size + 1 + 1 + 1]? = some (.cells #[.int .i64 (fstO (vals pre))] 3 (0, 0))) ∧ (∀ p ∈ vals pre, ¬ phase C now ≤ p)) ∧ Below w.heap.size w W)
    (fun c (pre : List (PhT C o)) W => (c = .ret ∧ (∃ q x, vals pre = q ++ [x] ∧ (∀ p ∈ q, ¬ phase C now ≤ p) ∧ phase C now ≤ x ∧ W.heap[w.heap.size + 1 + 1]? = some (.cells #[.int .i64 (tnext now C.f x)] 3 (0, 0)))) ∧ Below w.heap.size w W)
    (OwnFrom.and (fun s A B row hs hg hr => ⟨⟨own_blk hs.1.1 hg hr, own_blk hs.1.2.1 hg hr, own_blk hs.1.2.2.1 hg hr, own_blk hs.1.2.2.2 hg hr⟩, hs.2⟩) (ownFrom_below (Nat.le_refl _) (by omega)))
    (fun c => OwnFrom.and (fun s A B row hs hg hr => ⟨hs.1, by obtain ⟨q, x, h1, h2, h3, h4⟩ := hs.2; exact ⟨q, x, h1, h2, h3, own_blk h4 hg hr⟩⟩) (ownFrom_below (Nat.le_refl _) (by omega)))
    ⟨⟨⟨hc6, hn6, hr6, hf6⟩, fun p hp => (by cases hp)⟩, hb6⟩
    (fun x => { tmps := #[.agg #[.int .i64 C.p, .int .i64 C.f, .slice A2 C.ws.length c2, .slice A3 C.ks.length c3, .slice A4 C.ac.length c4], .int .i64 o, .int .i64 now, .pointer (some ⟨w.heap.size, 0, none⟩), undef, .pointer (some ⟨w.heap.size + 1, 0, none⟩), .pointer (some ⟨w.heap.size + 1 + 1, 0, none⟩), .pointer (some ⟨w.heap.size + 1 + 1 + 1, 0, none⟩), .int .i64 x.1, .agg #[.int .i64 C.p, .int .i64 C.f, .slice A2 C.ws.length c2, .slice A3 C.ks.length c3, .slice A4 C.ac.length c4], .int .i64 o, .func (.func 41) #[] #[.pointer (some ⟨w.heap.size + 1 + 1 + 1 + 1, 0, none⟩), .pointer (some ⟨w.heap.size + 1 + 1 + 1 + 1 + 1, 0, none⟩)], .int .i64 x.1, undef, undef, undef, undef, undef, undef, undef, undef, undef, undef, undef, undef, undef, undef, undef, undef, undef, undef, undef, undef, undef], defers := [] }) ?assign ?body ?done ?stop
  case assign =>
    intro l x W K hK
    gi_wp2
    exact hK
  case body =>
    rintro l pre x W ⟨⟨⟨hc, hn, hr, hf⟩, hpre⟩, hB⟩ hlen
    clear hb6 hs6 hc6 hn6 hr6 hf6 hp6 ho6 hlen
    have hx := phs_mem x.2
    have hF := (ok_hd hx.1).2.1
    have HXM := Aside0.mk hx
    have HFF := Aside0.mk hF
    have hv : ∀ y ∈ vals pre, 0 ≤ y := fun y hy => (phs_mem (vals_mem hy)).2.1
    have HFS := Aside0.mk (fstO_snoc (x := x.1) hv)
    have c1 := (blk_cell hc 1).trans (show _ = some (.int .i64 C.f) from rfl)
    have n0 := (blk_cell hn 0).trans (show _ = some (.int .i64 now) from rfl)
    have r0 := (blk_cell hr 0).trans (show _ = some (.int .i64 0) from rfl)
    have f0 := (blk_cell hf 0).trans (show _ = some (.int .i64 (fstO (vals pre))) from rfl)
    have rf := blk_frozen hr 0
    have ff := blk_frozen hf 0
    have HC := Aside0.mk hc
    have HN := Aside0.mk hn
    have HR := Aside0.mk hr
    have HF := Aside0.mk hf
    have HP := Aside0.mk hpre
    have HB := Aside0.mk hB
    have HSN := Aside0.mk (vals_snoc pre x)
    clear hc hn hr hf hpre hB hx hF hv
    have NX := Aside0.mk (fun w => nextT_any now C.f x.1 w HFF.out ⟨HXM.out.2.1, HXM.out.2.2⟩)
    have PX := Aside0.mk (fun w => phase_any now C.f w)
    have hph : phase C now = cut now % fr C.f := rfl
    rw [← hph] at PX
    have HPH := Aside0.mk hph
    clear hph
    obtain ⟨x, hx0⟩ := x
    have HX0 := Aside0.mk hx0
    simp only [] at HXM HFS HSN NX
    by_cases hge : phase C now ≤ x
    · have d : decide (phase C now ≤ x) = true := decide_eq_true hge
      have HGE := Aside0.mk hge
      clear hge
      gi_wp2_with (first | (refine ⟨trivial, ?_⟩; gi_at_call 27; refine (CallsIn.inRound l (callsIn_wide.2 (PX.out _))).mono ?_; rintro e w' ⟨rfl, rfl⟩) | (refine ⟨trivial, ?_⟩; gi_at_call 31; refine (CallsIn.inRound l (callsIn_wide.2 (NX.out _))).mono ?_; rintro e w' ⟨rfl, rfl⟩))
      refine ⟨KeepsOthers.setCell _ _ _, ⟨rfl, vals pre, x, HSN.out, HP.out, HGE.out, blk_put HR.out 0 _ (by simp)⟩, below_set HB.out (by omega)⟩
    · have d : decide (phase C now ≤ x) = false := decide_eq_false hge
      have HGE := Aside0.mk hge
      clear hge
      have HPS : Aside0 (∀ p ∈ vals (pre ++ [(⟨x, hx0⟩ : PhT C o)]), ¬ phase C now ≤ p) := ⟨fun y hy => by
        rw [HSN.out] at hy
        rcases List.mem_append.1 hy with hy | hy
        · exact HP.out y hy
        · rw [List.mem_singleton.1 hy]; exact HGE.out⟩
      have HFN := Aside0.mk (congrArg fstO HSN.out)
      by_cases hf0 : fstO (vals pre) < 0
      · have d2 : decide (fstO (vals pre) < 0) = true := decide_eq_true hf0
        have HE : Aside0 (x = fstO (vals (pre ++ [(⟨x, hx0⟩ : PhT C o)]))) := ⟨by rw [HFN.out, ← HFS.out, if_pos hf0]⟩
        clear hf0
        gi_wp2_with (first | (refine ⟨trivial, ?_⟩; gi_at_call 27; refine (CallsIn.inRound l (callsIn_wide.2 (PX.out _))).mono ?_; rintro e w' ⟨rfl, rfl⟩) | (refine ⟨trivial, ?_⟩; gi_at_call 31; refine (CallsIn.inRound l (callsIn_wide.2 (NX.out _))).mono ?_; rintro e w' ⟨rfl, rfl⟩))
        refine ⟨KeepsOthers.setCell _ _ _, ⟨(Below.refl w.heap.size W).setCell (p := ⟨w.heap.size + 1 + 1 + 1, 0, none⟩) (by show w.heap.size ≤ w.heap.size + 1 + 1 + 1; omega) _, KB.put (S := (fun k => k = w.heap.size + 1 + 1 ∨ k = w.heap.size + 1 + 1 + 1)) (g := w.heap.size + 1 + 1 + 1) W (.inr rfl) 0 _⟩, ⟨⟨blk_far (p := ⟨w.heap.size + 1 + 1 + 1, 0, none⟩) HC.out (by show w.heap.size ≠ w.heap.size + 1 + 1 + 1; omega) _, blk_far (p := ⟨w.heap.size + 1 + 1 + 1, 0, none⟩) HN.out (by show w.heap.size + 1 ≠ w.heap.size + 1 + 1 + 1; omega) _, blk_far (p := ⟨w.heap.size + 1 + 1 + 1, 0, none⟩) HR.out (by show w.heap.size + 1 + 1 ≠ w.heap.size + 1 + 1 + 1; omega) _, ?_⟩, HPS.out⟩, below_set HB.out (by omega)⟩
        rw [← HE.out]
        exact blk_put HF.out 0 _ (by simp)
      · have d2 : decide (fstO (vals pre) < 0) = false := decide_eq_false hf0
        have HE : Aside0 (fstO (vals pre) = fstO (vals (pre ++ [(⟨x, hx0⟩ : PhT C o)]))) := ⟨by rw [HFN.out, ← HFS.out, if_neg hf0]⟩
        clear hf0
        gi_wp2_with (first | (refine ⟨trivial, ?_⟩; gi_at_call 27; refine (CallsIn.inRound l (callsIn_wide.2 (PX.out _))).mono ?_; rintro e w' ⟨rfl, rfl⟩) | (refine ⟨trivial, ?_⟩; gi_at_call 31; refine (CallsIn.inRound l (callsIn_wide.2 (NX.out _))).mono ?_; rintro e w' ⟨rfl, rfl⟩))
        refine ⟨KeepsOthers.refl _, ⟨Below.refl _ _, KB.refl _⟩, ⟨⟨HC.out, HN.out, HR.out, ?_⟩, HPS.out⟩, HB.out⟩
        rw [← HE.out]
        exact HF.out
  case done =>
    rintro D ys W hD hys ⟨⟨⟨hc, hn, hr, hf⟩, hpre⟩, hB⟩ hK
    rw [hys] at hf hpre
    have hdw : w.heap.size ≤ D := by omega
    have HU := Aside0.mk (until_done hpre)
    have c1 := (blk_cell hc 1).trans (show _ = some (.int .i64 C.f) from rfl)
    have n0 := (blk_cell hn 0).trans (show _ = some (.int .i64 now) from rfl)
    have r0 := (blk_cell hr 0).trans (show _ = some (.int .i64 0) from rfl)
    have f0 := (blk_cell hf 0).trans (show _ = some (.int .i64 (fstO (phs C o))) from rfl)
    have rf := blk_frozen hr 0
    have HR := Aside0.mk hr
    have HB := Aside0.mk hB
    have HK := Aside0.mk hK
    clear hb6 hs6 hc6 hn6 hr6 hf6 hp6 ho6 hys hc hn hr hf hpre hB hD
    by_cases hf0 : fstO (phs C o) < 0
    · have d2 : decide (fstO (phs C o) < 0) = true := decide_eq_true hf0
      have HV : Aside0 (untilN C o now = -1) := ⟨by rw [HU.out, if_pos hf0]⟩
      clear hf0
      gi_wp2
      have hK' := (KeepsOthers.setCell W ⟨w.heap.size + 1 + 1, 0, none⟩ (.int .i64 (-1))).same D _ HK.out rfl
      refine ⟨by simp, .inl ⟨_, _, rfl, run_takeDeferred hK', ?_⟩⟩
      have hc5 := cell_kept (World.cell?_setCell_same' W ⟨w.heap.size + 1 + 1, 0, none⟩ (.int .i64 (-1)) (by rw [r0]; rfl)) (grownBy_putObj' _ D (.deferred none)) (fun r e => by cases e; exact ⟨_, hK', rfl⟩)
      refine ⟨.int .i64 (-1), ?_, by rw [HV.out], (below_set (j := 0) (v := .int .i64 (-1)) HB.out (show w.heap.size ≤ w.heap.size + 1 + 1 by omega)).trans (belowK_b (w := w) (Nat.le_refl _) _ D _ _ hdw hK' rfl rfl)⟩
      simp [results, Tryd.f16, go_sem, hc5]
    · have d2 : decide (fstO (phs C o) < 0) = false := decide_eq_false hf0
      have hmem := phs_mem (fstO_mem hf0)
      have hF := (ok_hd hmem.1).2.1
      have NX := Aside0.mk (fun w => nextT_any now C.f (fstO (phs C o)) w hF ⟨hmem.2.1, hmem.2.2⟩)
      have HV : Aside0 (untilN C o now = tnext now C.f (fstO (phs C o))) := ⟨by rw [HU.out, if_neg hf0]⟩
      clear hf0 hmem hF
      gi_wp2_with (first | (refine ⟨trivial, ?_⟩; gi_at_call 31; refine (callsIn_wide.2 (NX.out _)).mono ?_; rintro e w' ⟨rfl, rfl⟩) | (gi_at_call 31; refine (callsIn_wide.2 (NX.out _)).mono ?_; rintro e w' ⟨rfl, rfl⟩))
      have hK' := (KeepsOthers.setCell W ⟨w.heap.size + 1 + 1, 0, none⟩ (.int .i64 (tnext now C.f (fstO (phs C o))))).same D _ HK.out rfl
      refine ⟨by simp, .inl ⟨_, _, rfl, run_takeDeferred hK', ?_⟩⟩
      have hc5 := cell_kept (World.cell?_setCell_same' W ⟨w.heap.size + 1 + 1, 0, none⟩ (.int .i64 (tnext now C.f (fstO (phs C o)))) (by rw [r0]; rfl)) (grownBy_putObj' _ D (.deferred none)) (fun r e => by cases e; exact ⟨_, hK', rfl⟩)
      refine ⟨.int .i64 (tnext now C.f (fstO (phs C o))), ?_, by rw [HV.out], (below_set (j := 0) (v := .int .i64 (tnext now C.f (fstO (phs C o)))) HB.out (show w.heap.size ≤ w.heap.size + 1 + 1 by omega)).trans (belowK_b (w := w) (Nat.le_refl _) _ D _ _ hdw hK' rfl rfl)⟩
      simp [results, Tryd.f16, go_sem, hc5]
  case stop =>
    rintro D c pre W hD hpre ⟨⟨rfl, q, x, hv, hq, hx, hr⟩, hB⟩ hK
    have hpre' : vals pre <+: phs C o := hpre
    rw [hv] at hpre'
    have hdw : w.heap.size ≤ D := by omega
    have HV := Aside0.mk (until_stop hpre' hq hx)
    have HB := Aside0.mk hB
    have hc0 := (blk_cell hr 0).trans (show _ = some (.int .i64 (tnext now C.f x)) from rfl)
    clear hb6 hs6 hc6 hn6 hr6 hf6 hp6 ho6 hv hq hx hpre hpre' hB hD
    gi_wp2
    refine ⟨by simp, .inl ⟨_, _, rfl, run_takeDeferred hK, ?_⟩⟩
    have hc5 := cell_kept hc0 (grownBy_putObj' _ D (.deferred none)) (fun r e => by cases e; exact ⟨_, hK, rfl⟩)
    refine ⟨.int .i64 (tnext now C.f x), ?_, by rw [HV.out], HB.out.trans (belowK_b (w := w) (Nat.le_refl _) W D _ _ hdw hK rfl rfl)⟩
    simp [results, Tryd.f16, go_sem, hc5]
end Go.Proofs.YtmmkbgilcggkkaaDoor.Wn
