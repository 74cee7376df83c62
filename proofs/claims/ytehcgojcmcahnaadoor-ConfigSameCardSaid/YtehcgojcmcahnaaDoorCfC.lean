/- Layer 4 (config): Check. -/
import Derived.Test.YtehcgojcmcahnaaDoorCfL
set_option linter.unusedVariables false
set_option linter.unusedSimpArgs false
namespace Go.Proofs.YtehcgojcmcahnaaDoor.Cf
open Go.RowKit Go.Proofs.YtehcgojcmcahnaaDoorW.PrintWords Go.Proofs.YtehcgojcmcahnaaDoorW.PrintLast Go.Proofs.YtehcgojcmcahnaaDoorW.PrintMore Go.Proofs.YtehcgojcmcahnaaDoor.Cz Go.Proofs.YtehcgojcmcahnaaDoor.PConfigSame
attribute [local go_sem] max2_int min2_int max_two min_two max_three min_three max_four min_four Tryd.underlying26 Tryd.underlying30 Tryd.underlying57 Tryd.underlying53
theorem below_grown {w0 W W' : World} {row : Option Nat} (h : Below w0.heap.size w0 W) (hg : W.grownBy W' row) (hne : ∀ k, row = some k → w0.heap.size ≤ k) : Below w0.heap.size w0 W' :=
  h.trans ⟨hg.os, hg.tape, hg.output, hg.size, fun k hk => hg.block k (Nat.lt_of_lt_of_le hk h.size) (fun e => by have := hne k e.symm; omega)⟩
theorem grown_set (w : World) (b i : Nat) (v : Value) : w.grownBy (w.setCell ⟨b, i, none⟩ v) (some b) :=
  ⟨rfl, rfl, rfl, by simp [World.setCell], fun k _ hk => Below.heap_setCell _ _ _ _ (fun e => hk (by rw [e]))⟩
theorem as_any {g t : Nat} {a b : Int} {w : World} (hl : LG w) (hfb : FB w g a b) (ht : w.heap[t]? = some (.cells #[.pointer none] 53 (0, 0))) :
    Calls Tryd.prog 27 #[.iface 53 (.pointer (some ⟨g, 0, none⟩)), .iface 55 (.pointer (some ⟨t, 0, none⟩))] w fun e w' => e = .returned (.bool true) ∧ w'.heap[t]? = some (.cells #[.pointer (some ⟨g, 0, none⟩)] 53 (0, 0)) ∧ FB w' g a b ∧ w.grownBy w' (some t) := by
  refine (As.as_hit ⟨g, 0, none⟩ ⟨t, 0, none⟩ (.pointer none) w hl ((blk_cell ht 0).trans rfl) (blk_frozen ht 0)).mono ?_
  rintro e w' ⟨rfl, rfl⟩
  have hne : g ≠ t := blk_ne hfb ht (by decide)
  refine ⟨rfl, ?_, ?_, ?_⟩
  · exact blk_put (blk_alloc (blk_alloc (blk_alloc (blk_alloc ht _) _) _) _) 0 _ rfl
  · exact blk_far (p := ⟨t, 0, none⟩) (blk_alloc (blk_alloc (blk_alloc (blk_alloc hfb _) _) _) _) hne _
  · have hb := below_alloc (below_alloc (below_alloc (below_alloc (Below.refl w.heap.size w) (.cells #[.pointer (some ⟨t, 0, none⟩)] 55)) (.cells #[.pointer (some ⟨1, 55, none⟩), .pointer (some ⟨w.heap.size, 0, none⟩), .int .u64 150] 72)) (.cells #[.pointer (some ⟨1, 55, none⟩), .pointer (some ⟨w.heap.size, 0, none⟩), .int .u64 150] 72)) (.cells #[.pointer (some ⟨g, 0, none⟩)] 53)
    exact World.grownBy.trans ⟨hb.os, hb.tape, hb.output, hb.size, fun k hk _ => hb.block k hk⟩ (grown_set _ t 0 _)
/-- What Check answers: part, number, error. -/
structure Ans where
  a : Int
  b : Int
  e : Int
def chk (C : Cfg) : Ans := match hd C.p C.f C.ws.length with
  | some x => ⟨x.1, x.2, 4⟩
  | none => match ls C with
    | some x => ⟨x.1, x.2, 4⟩
    | none => ⟨0, 0, 0⟩
theorem hd_none {p f n : Int} (h : hd p f n = none) : (1 ≤ p ∧ p ≤ 4) ∧ (1 ≤ f ∧ f ≤ 64) ∧ (1 ≤ n ∧ n ≤ 8) := by
  unfold hd at h
  cases h1 : btw p 1 4
  · rw [if_pos h1] at h; cases h
  · rw [if_neg (by rw [h1]; decide)] at h
    cases h2 : btw f 1 64
    · rw [if_pos h2] at h; cases h
    · rw [if_neg (by rw [h2]; decide)] at h
      cases h3 : btw n 1 8
      · rw [if_pos h3] at h; cases h
      · exact ⟨btw_true h1, btw_true h2, btw_true h3⟩
set_option maxHeartbeats 8000000 in
theorem check_any {C : Cfg} {A2 A3 A4 : Option Addr} {c2 c3 c4 : Nat} {w : World} (h : CX w C A2 c2 A3 c3 A4 c4) (hg : LG w) (hk : C.ks.length ≤ 1000) (ha : C.ac.length ≤ 1000) (hw : C.ws.length ≤ 1000) :
    Calls Tryd.prog 12 #[.agg #[.int .i64 C.p, .int .i64 C.f, .slice A2 C.ws.length c2, .slice A3 C.ks.length c3, .slice A4 C.ac.length c4]] w fun e w' => e = .returned (.tuple #[.agg #[.int .i64 (chk C).a, .int .i64 (chk C).b], .int .i64 (chk C).e]) ∧ Below w.heap.size w w' := by
  have HH := fun w => heads_any C.p C.f A2 A3 A4 C.ws.length C.ks.length C.ac.length c2 c3 c4 w
  have HX := Aside0.mk h
  have HG := Aside0.mk hg
  have T := Aside0.mk Tryd.underlying30
  have bb := And.intro (blk_alloc (blk_new w (.cells #[.int .i64 C.p, .int .i64 C.f, .slice A2 C.ws.length c2, .slice A3 C.ks.length c3, .slice A4 C.ac.length c4] 26)) (.cells #[.int .i64 0, .int .i64 0] 30)) (And.intro (show ((w.alloc (.cells #[.int .i64 C.p, .int .i64 C.f, .slice A2 C.ws.length c2, .slice A3 C.ks.length c3, .slice A4 C.ac.length c4] 26)).alloc (.cells #[.int .i64 0, .int .i64 0] 30)).heap[w.heap.size + 1]? = some (.cells #[.int .i64 0, .int .i64 0] 30 (0, 0)) by simpa using heap_alloc_new (w.alloc (.cells #[.int .i64 C.p, .int .i64 C.f, .slice A2 C.ws.length c2, .slice A3 C.ks.length c3, .slice A4 C.ac.length c4] 26)) (.cells #[.int .i64 0, .int .i64 0] 30)) (below_alloc (below_alloc (Below.refl w.heap.size w) (.cells #[.int .i64 C.p, .int .i64 C.f, .slice A2 C.ws.length c2, .slice A3 C.ks.length c3, .slice A4 C.ac.length c4] 26)) (.cells #[.int .i64 0, .int .i64 0] 30)))
  have BB := Aside0.mk bb
  clear bb h hg
  have BC := Aside0.mk BB.out.1
  have BR := Aside0.mk BB.out.2.1
  have BL := Aside0.mk BB.out.2.2
  clear BB
  unfold chk
  cases h1 : hd C.p C.f C.ws.length with
  | some x =>
    simp only []
    rw [h1] at HH
    replace HH := Aside0.mk HH
    go_enter Tryd.func12, Tryd.ntmps12
    go_wp2_with (first | (go_at_call 25; refine (HH.out _).mono ?_; rintro e w2 ⟨hb, g, rfl, hg⟩; have hr := blk_below BR.out hb; have HA := Aside0.mk (as_any (t := w2.heap.size) (HG.out.below (below_alloc (below_step BL.out hb) (.cells #[.pointer none] 53))) (blk_alloc hg (.cells #[.pointer none] 53)) (blk_new w2 (.cells #[.pointer none] 53))); have HR3 := Aside0.mk (blk_alloc hr (.cells #[.pointer none] 53)); have HL3 := Aside0.mk (And.intro (below_alloc (below_step BL.out hb) (.cells #[.pointer none] 53)) (below_step BL.out hb).size); clear hb hg hr) | (go_at_call 27; refine HA.out.mono ?_; clear HA; rintro e w5 ⟨rfl, h5, hf5, hg5⟩; have y0 : w5.cell? ⟨w2.heap.size, 0, none⟩ = some (.pointer (some ⟨g, 0, none⟩)) := (blk_cell h5 0).trans rfl; have f0 : w5.cell? ⟨g, 0, none⟩ = some (.int .i64 x.1) := (blk_cell hf5 0).trans rfl; have f1 : w5.cell? ⟨g, 1, none⟩ = some (.int .i64 x.2) := (blk_cell hf5 1).trans rfl; have hr5 := blk_grown HR3.out hg5 (fun e => blk_ne HR3.out (blk_new w2 (.cells #[.pointer none] 53)) (by decide) (Option.some.inj e)); have r0 : w5.cell? ⟨w.heap.size + 1, 0, none⟩ = some (.int .i64 0) := (blk_cell hr5 0).trans rfl; have r1 : w5.cell? ⟨w.heap.size + 1, 1, none⟩ = some (.int .i64 0) := (blk_cell hr5 1).trans rfl; have q0 := blk_frozen hr5 0; have q1 := blk_frozen hr5 1; have HR5 := Aside0.mk hr5; have HL5 := Aside0.mk (below_grown HL3.out.1 hg5 (fun k hk => by cases hk; exact HL3.out.2)); clear h5 hf5 hg5 hr5))
    refine bodyPost_ret (results_ct rfl _ _ (w.heap.size + 1) 30 #[.int .i64 x.1, .int .i64 x.2] (0, 0) _ rfl ?hheap T.out rfl (by kernel_rfl)) rfl ?_
    case hheap => exact blk_put (blk_put HR5.out 0 _ rfl) 1 _ rfl
    exact ⟨rfl, below_set (below_set HL5.out (by simp)) (by simp)⟩
  | none =>
    rw [h1] at HH
    replace HH := Aside0.mk HH
    obtain ⟨hp, hf, hn⟩ := hd_none h1
    have HL := fun w1 (hb : Below w.heap.size w w1) => lists_any (HX.out.below hb) hp hf hk ha hw
    cases h2 : ls C with
    | some x =>
      simp only []
      rw [h2] at HL
      replace HL := Aside0.mk HL
      clear hp hf hn hk ha hw
      go_enter Tryd.func12, Tryd.ntmps12
      go_wp2_with (first | (go_at_call 25; refine (HH.out _).mono ?_; rintro e w2 ⟨hb, rfl⟩; have hc := blk_below BC.out hb; have z0 := (blk_cell hc 0).trans rfl; have z1 := (blk_cell hc 1).trans rfl; have z2 := (blk_cell hc 2).trans rfl; have z3 := (blk_cell hc 3).trans rfl; have z4 := (blk_cell hc 4).trans rfl; have BC := Aside0.mk hc; have BR := Aside0.mk (blk_below BR.out hb); have BL := Aside0.mk (below_step BL.out hb); clear hb hc) | (go_at_call 26; refine (HL.out _ BL.out).mono ?_; rintro e w3 ⟨hb, g, rfl, hg⟩; have hr := blk_below BR.out hb; have HA := Aside0.mk (as_any (t := w3.heap.size) (HG.out.below (below_alloc (below_step BL.out hb) (.cells #[.pointer none] 53))) (blk_alloc hg (.cells #[.pointer none] 53)) (blk_new w3 (.cells #[.pointer none] 53))); have HR3 := Aside0.mk (blk_alloc hr (.cells #[.pointer none] 53)); have HL3 := Aside0.mk (And.intro (below_alloc (below_step BL.out hb) (.cells #[.pointer none] 53)) (below_step BL.out hb).size); clear hb hg hr) | (go_at_call 27; refine HA.out.mono ?_; clear HA; rintro e w5 ⟨rfl, h5, hf5, hg5⟩; have y0 : w5.cell? ⟨w3.heap.size, 0, none⟩ = some (.pointer (some ⟨g, 0, none⟩)) := (blk_cell h5 0).trans rfl; have f0 : w5.cell? ⟨g, 0, none⟩ = some (.int .i64 x.1) := (blk_cell hf5 0).trans rfl; have f1 : w5.cell? ⟨g, 1, none⟩ = some (.int .i64 x.2) := (blk_cell hf5 1).trans rfl; have hr5 := blk_grown HR3.out hg5 (fun e => blk_ne HR3.out (blk_new w3 (.cells #[.pointer none] 53)) (by decide) (Option.some.inj e)); have r0 : w5.cell? ⟨w.heap.size + 1, 0, none⟩ = some (.int .i64 0) := (blk_cell hr5 0).trans rfl; have r1 : w5.cell? ⟨w.heap.size + 1, 1, none⟩ = some (.int .i64 0) := (blk_cell hr5 1).trans rfl; have q0 := blk_frozen hr5 0; have q1 := blk_frozen hr5 1; have HR5 := Aside0.mk hr5; have HL5 := Aside0.mk (below_grown HL3.out.1 hg5 (fun k hk => by cases hk; exact HL3.out.2)); clear h5 hf5 hg5 hr5))
      refine bodyPost_ret (results_ct rfl _ _ (w.heap.size + 1) 30 #[.int .i64 x.1, .int .i64 x.2] (0, 0) _ rfl ?hheap2 T.out rfl (by kernel_rfl)) rfl ?_
      case hheap2 => exact blk_put (blk_put HR5.out 0 _ rfl) 1 _ rfl
      exact ⟨rfl, below_set (below_set HL5.out (by simp)) (by simp)⟩
    | none =>
      simp only []
      rw [h2] at HL
      replace HL := Aside0.mk HL
      clear hp hf hn hk ha hw
      go_enter Tryd.func12, Tryd.ntmps12
      go_wp2_with (first | (go_at_call 25; refine (HH.out _).mono ?_; rintro e w2 ⟨hb, rfl⟩; have hc := blk_below BC.out hb; have z0 := (blk_cell hc 0).trans rfl; have z1 := (blk_cell hc 1).trans rfl; have z2 := (blk_cell hc 2).trans rfl; have z3 := (blk_cell hc 3).trans rfl; have z4 := (blk_cell hc 4).trans rfl; have BC := Aside0.mk hc; have BR := Aside0.mk (blk_below BR.out hb); have BL := Aside0.mk (below_step BL.out hb); clear hb hc) | (go_at_call 26; refine (HL.out _ BL.out).mono ?_; rintro e w3 ⟨hb, rfl⟩; have hc := blk_below BC.out hb; have z0 := (blk_cell hc 0).trans rfl; have z1 := (blk_cell hc 1).trans rfl; have z2 := (blk_cell hc 2).trans rfl; have z3 := (blk_cell hc 3).trans rfl; have z4 := (blk_cell hc 4).trans rfl; have BC := Aside0.mk hc; have BR := Aside0.mk (blk_below BR.out hb); have BL := Aside0.mk (below_step BL.out hb); clear hb hc) | (go_at_call 27; refine (As.as_nil _ _).mono ?_; rintro e w5 ⟨rfl, rfl⟩; have hr5 := blk_alloc BR.out (.cells #[.pointer none] 53); have r0 : (w3.alloc (.cells #[.pointer none] 53)).cell? ⟨w.heap.size + 1, 0, none⟩ = some (.int .i64 0) := (blk_cell hr5 0).trans rfl; have r1 : (w3.alloc (.cells #[.pointer none] 53)).cell? ⟨w.heap.size + 1, 1, none⟩ = some (.int .i64 0) := (blk_cell hr5 1).trans rfl; have q0 := blk_frozen hr5 0; have q1 := blk_frozen hr5 1; have HFIN := Aside0.mk (blk_put (blk_put hr5 0 (.int .i64 0) rfl) 1 (.int .i64 0) rfl); have HFB := Aside0.mk (below_set (g := w.heap.size + 1) (j := 1) (v := .int .i64 0) (below_set (g := w.heap.size + 1) (j := 0) (v := .int .i64 0) (below_alloc BL.out (.cells #[.pointer none] 53)) (by omega)) (by omega)); clear hr5))
      refine bodyPost_ret (results_ct rfl _ _ (w.heap.size + 1) 30 #[.int .i64 0, .int .i64 0] (0, 0) _ rfl ?hheap3 T.out rfl (by kernel_rfl)) rfl ?_
      case hheap3 => exact HFIN.out
      exact ⟨rfl, HFB.out⟩
end Go.Proofs.YtehcgojcmcahnaaDoor.Cf
