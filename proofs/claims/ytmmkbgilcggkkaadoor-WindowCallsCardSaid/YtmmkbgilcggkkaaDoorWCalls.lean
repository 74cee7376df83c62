/- WindowCalls: the walk. -/
import Derived.Test.YtmmkbgilcggkkaaDoorWp
import Derived.Test.YtmmkbgilcggkkaaDoorGw
import Derived.Test.YtmmkbgilcggkkaaDoorFew
import Derived.Test.YtmmkbgilcggkkaaDoorWr2
import Derived.Deep.RegionHeld3
set_option linter.unusedVariables false
set_option linter.unusedSimpArgs false
namespace Go.Proofs.YtmmkbgilcggkkaaDoor.Wn
open Go Go.RowKit Go.Shelf Go.Proofs.YtmmkbgilcggkkaaDoorW.PrintWords Go.Proofs.YtmmkbgilcggkkaaDoorW.PrintLast Go.Proofs.YtmmkbgilcggkkaaDoorW.PrintMore Go.Proofs.YtmmkbgilcggkkaaDoor.Cz Go.Proofs.YtmmkbgilcggkkaaDoor.PWindowCalls Go.Proofs.YtmmkbgilcggkkaaDoor.Cf Go.Proofs.YtmmkbgilcggkkaaDoor.Sat
attribute [local go_sem] max2_int min2_int max_two min_two max_three min_three max_four min_four Tryd.underlying26 Tryd.underlying41 Tryd.underlying37
set_option maxHeartbeats 16000000 in
set_option maxRecDepth 100000 in
theorem same_any {C : Cfg} {A2 A3 A4 : Option Addr} {c2 c3 c4 : Nat} {w : World} (hX : CX w C A2 c2 A3 c3 A4 c4) (hg : LG w) (lk : C.ks.length ≤ 1000) (la : C.ac.length ≤ 1000) (lw : C.ws.length ≤ 1000) (o now : Int) :
    Calls Tryd.prog 18 #[.agg #[.int .i64 C.p, .int .i64 C.f, .slice A2 C.ws.length c2, .slice A3 C.ks.length c3, .slice A4 C.ac.length c4], .int .i64 o, .int .i64 now] w fun e w' => e = .returned (.bool true) ∧ Below w.heap.size w w' := by
  have C1 : Aside0 (∀ W : World, Below w.heap.size w W → Calls Tryd.prog 14 #[.agg #[.int .i64 C.p, .int .i64 C.f, .slice A2 C.ws.length c2, .slice A3 C.ks.length c3, .slice A4 C.ac.length c4], .int .i64 now] W fun e w' => e = .returned (.tuple #[.int .i64 ((whoN C now).getD 0), .bool (whoN C now).isSome]) ∧ Below W.heap.size W w') := ⟨fun W hb => whose_any (hX.below hb) (hg.below hb) lk la lw now⟩
  have D1 : Aside0 (∀ W : World, Below w.heap.size w W → Calls Tryd.prog 32 #[.agg #[.int .i64 C.p, .int .i64 C.f, .slice A2 C.ws.length c2, .slice A3 C.ks.length c3, .slice A4 C.ac.length c4], .int .i64 now] W fun e w' => e = .returned (.tuple #[.int .i64 ((whoN C now).getD 0), .bool (whoN C now).isSome]) ∧ Below W.heap.size W w') := ⟨fun W hb => rwhose_any (hX.below hb) lk la lw now⟩
  have C2 : Aside0 (∀ W : World, Below w.heap.size w W → Calls Tryd.prog 19 #[.agg #[.int .i64 C.p, .int .i64 C.f, .slice A2 C.ws.length c2, .slice A3 C.ks.length c3, .slice A4 C.ac.length c4], .int .i64 now] W fun e w' => e = .returned (.tuple #[.int .i64 ((servesN C now).getD 0), .bool (servesN C now).isSome]) ∧ Below W.heap.size W w') := ⟨fun W hb => serves_any (hX.below hb) (hg.below hb) lk la lw now⟩
  have D2 : Aside0 (∀ W : World, Below w.heap.size w W → Calls Tryd.prog 33 #[.agg #[.int .i64 C.p, .int .i64 C.f, .slice A2 C.ws.length c2, .slice A3 C.ks.length c3, .slice A4 C.ac.length c4], .int .i64 now] W fun e w' => e = .returned (.tuple #[.int .i64 ((servesN C now).getD 0), .bool (servesN C now).isSome]) ∧ Below W.heap.size W w') := ⟨fun W hb => rserves_any (hX.below hb) lk la lw now⟩
  have C3 : Aside0 (∀ W : World, Below w.heap.size w W → Calls Tryd.prog 17 #[.agg #[.int .i64 C.p, .int .i64 C.f, .slice A2 C.ws.length c2, .slice A3 C.ks.length c3, .slice A4 C.ac.length c4], .int .i64 o] W fun e w' => e = .returned (.int .i64 (countN C o)) ∧ Below W.heap.size W w') := ⟨fun W hb => count_any (hX.below hb) (hg.below hb) lk la lw o⟩
  have D3 : Aside0 (∀ W : World, Below w.heap.size w W → Calls Tryd.prog 34 #[.agg #[.int .i64 C.p, .int .i64 C.f, .slice A2 C.ws.length c2, .slice A3 C.ks.length c3, .slice A4 C.ac.length c4], .int .i64 o] W fun e w' => e = .returned (.int .i64 (countN C o)) ∧ Below W.heap.size W w') := ⟨fun W hb => rcount_any (hX.below hb) lk la lw o⟩
  have C4 : Aside0 (∀ W : World, Below w.heap.size w W → Calls Tryd.prog 13 #[.agg #[.int .i64 C.p, .int .i64 C.f, .slice A2 C.ws.length c2, .slice A3 C.ks.length c3, .slice A4 C.ac.length c4], .int .i64 o, .int .i64 now] W fun e w' => e = .returned (.int .i64 (beforeN C o now)) ∧ Below W.heap.size W w') := ⟨fun W hb => before_any (hX.below hb) (hg.below hb) lk la lw o now⟩
  have D4 : Aside0 (∀ W : World, Below w.heap.size w W → Calls Tryd.prog 35 #[.agg #[.int .i64 C.p, .int .i64 C.f, .slice A2 C.ws.length c2, .slice A3 C.ks.length c3, .slice A4 C.ac.length c4], .int .i64 o, .int .i64 now] W fun e w' => e = .returned (.int .i64 (beforeN C o now)) ∧ Below W.heap.size W w') := ⟨fun W hb => rbefore_any (hX.below hb) lk la lw o now⟩
  have C5 : Aside0 (∀ W : World, Below w.heap.size w W → Calls Tryd.prog 16 #[.agg #[.int .i64 C.p, .int .i64 C.f, .slice A2 C.ws.length c2, .slice A3 C.ks.length c3, .slice A4 C.ac.length c4], .int .i64 o, .int .i64 now] W fun e w' => e = .returned (.int .i64 (untilN C o now)) ∧ Below W.heap.size W w') := ⟨fun W hb => until_any (hX.below hb) (hg.below hb) lk la lw o now⟩
  have D5 : Aside0 (∀ W : World, Below w.heap.size w W → Calls Tryd.prog 36 #[.agg #[.int .i64 C.p, .int .i64 C.f, .slice A2 C.ws.length c2, .slice A3 C.ks.length c3, .slice A4 C.ac.length c4], .int .i64 o, .int .i64 now] W fun e w' => e = .returned (.int .i64 (untilN C o now)) ∧ Below W.heap.size W w') := ⟨fun W hb => runtil_any (hX.below hb) lk la lw o now⟩
  have C6 : Aside0 (∀ W : World, Below w.heap.size w W → Calls Tryd.prog 15 #[.agg #[.int .i64 C.p, .int .i64 C.f, .slice A2 C.ws.length c2, .slice A3 C.ks.length c3, .slice A4 C.ac.length c4], .int .i64 o, .int .i64 now] W fun e w' => e = .returned (.int .i64 (nthN C o now)) ∧ Below W.heap.size W w') := ⟨fun W hb => nth_any (hX.below hb) (hg.below hb) lk la lw o now⟩
  have D6 : Aside0 (∀ W : World, Below w.heap.size w W → Calls Tryd.prog 37 #[.agg #[.int .i64 C.p, .int .i64 C.f, .slice A2 C.ws.length c2, .slice A3 C.ks.length c3, .slice A4 C.ac.length c4], .int .i64 o, .int .i64 now] W fun e w' => e = .returned (.int .i64 (nthN C o now)) ∧ Below W.heap.size W w') := ⟨fun W hb => rnth_any (hX.below hb) lk la lw o now⟩
  have H1 : Aside0 ((w.alloc (.cells #[.int .i64 C.p, .int .i64 C.f, .slice A2 C.ws.length c2, .slice A3 C.ks.length c3, .slice A4 C.ac.length c4] 26)).heap[w.heap.size]? = some (.cells #[.int .i64 C.p, .int .i64 C.f, .slice A2 C.ws.length c2, .slice A3 C.ks.length c3, .slice A4 C.ac.length c4] 26 (0, 0)) ∧ Below w.heap.size w (w.alloc (.cells #[.int .i64 C.p, .int .i64 C.f, .slice A2 C.ws.length c2, .slice A3 C.ks.length c3, .slice A4 C.ac.length c4] 26))) := ⟨⟨blk_new _ _, below_alloc (Below.refl _ _) _⟩⟩
  clear hX hg lk la lw
  generalize (whoN C now).getD 0 = r1 at C1 D1
  generalize (whoN C now).isSome = r2 at C1 D1
  generalize (servesN C now).getD 0 = r3 at C2 D2
  generalize (servesN C now).isSome = r4 at C2 D2
  generalize countN C o = r5 at C3 D3
  generalize beforeN C o now = r6 at C4 D4
  generalize untilN C o now = r7 at C5 D5
  generalize nthN C o now = r8 at C6 D6
  have b0 := (blk_cell H1.out.1 0).trans (show _ = some (.int .i64 C.p) from rfl)
  have b1 := (blk_cell H1.out.1 1).trans (show _ = some (.int .i64 C.f) from rfl)
  have b2 := (blk_cell H1.out.1 2).trans (show _ = some (.slice A2 C.ws.length c2) from rfl)
  have b3 := (blk_cell H1.out.1 3).trans (show _ = some (.slice A3 C.ks.length c3) from rfl)
  have b4 := (blk_cell H1.out.1 4).trans (show _ = some (.slice A4 C.ac.length c4) from rfl)
  go_enter Tryd.func18, Tryd.ntmps18
  go_upto_region 2 with (first | (go_at_call 14; (with_reducible refine (C1.out _ H1.out.2).mono ?_); rintro e w2 ⟨rfl, hb⟩; have H2 := Aside0.mk (And.intro (blk_below H1.out.1 hb) (below_step H1.out.2 hb)); clear hb b0 b1 b2 b3 b4; have b0 := (blk_cell H2.out.1 0).trans (show _ = some (.int .i64 C.p) from rfl); have b1 := (blk_cell H2.out.1 1).trans (show _ = some (.int .i64 C.f) from rfl); have b2 := (blk_cell H2.out.1 2).trans (show _ = some (.slice A2 C.ws.length c2) from rfl); have b3 := (blk_cell H2.out.1 3).trans (show _ = some (.slice A3 C.ks.length c3) from rfl); have b4 := (blk_cell H2.out.1 4).trans (show _ = some (.slice A4 C.ac.length c4) from rfl)))
  go_upto_region 3 with (first | (go_at_call 32; (with_reducible refine (D1.out _ H2.out.2).mono ?_); rintro e w3 ⟨rfl, hb⟩; have H3 := Aside0.mk (And.intro (blk_below H2.out.1 hb) (below_step H2.out.2 hb)); clear hb b0 b1 b2 b3 b4; have b0 := (blk_cell H3.out.1 0).trans (show _ = some (.int .i64 C.p) from rfl); have b1 := (blk_cell H3.out.1 1).trans (show _ = some (.int .i64 C.f) from rfl); have b2 := (blk_cell H3.out.1 2).trans (show _ = some (.slice A2 C.ws.length c2) from rfl); have b3 := (blk_cell H3.out.1 3).trans (show _ = some (.slice A3 C.ks.length c3) from rfl); have b4 := (blk_cell H3.out.1 4).trans (show _ = some (.slice A4 C.ac.length c4) from rfl)))
  go_upto_region 4 with (first | (go_at_call 19; (with_reducible refine (C2.out _ H3.out.2).mono ?_); rintro e w4 ⟨rfl, hb⟩; have H4 := Aside0.mk (And.intro (blk_below H3.out.1 hb) (below_step H3.out.2 hb)); clear hb b0 b1 b2 b3 b4; have b0 := (blk_cell H4.out.1 0).trans (show _ = some (.int .i64 C.p) from rfl); have b1 := (blk_cell H4.out.1 1).trans (show _ = some (.int .i64 C.f) from rfl); have b2 := (blk_cell H4.out.1 2).trans (show _ = some (.slice A2 C.ws.length c2) from rfl); have b3 := (blk_cell H4.out.1 3).trans (show _ = some (.slice A3 C.ks.length c3) from rfl); have b4 := (blk_cell H4.out.1 4).trans (show _ = some (.slice A4 C.ac.length c4) from rfl)))
  go_upto_region 5 with (first | (go_at_call 33; (with_reducible refine (D2.out _ H4.out.2).mono ?_); rintro e w5 ⟨rfl, hb⟩; have H5 := Aside0.mk (And.intro (blk_below H4.out.1 hb) (below_step H4.out.2 hb)); clear hb b0 b1 b2 b3 b4; have b0 := (blk_cell H5.out.1 0).trans (show _ = some (.int .i64 C.p) from rfl); have b1 := (blk_cell H5.out.1 1).trans (show _ = some (.int .i64 C.f) from rfl); have b2 := (blk_cell H5.out.1 2).trans (show _ = some (.slice A2 C.ws.length c2) from rfl); have b3 := (blk_cell H5.out.1 3).trans (show _ = some (.slice A3 C.ks.length c3) from rfl); have b4 := (blk_cell H5.out.1 4).trans (show _ = some (.slice A4 C.ac.length c4) from rfl)))
  clear H1 H2 H3 H4 C1 D1 C2 D2
  have TS := Aside0.mk (fun (W : World) (hb : Below w5.heap.size w5 W) => And.intro (cell_b b0 hb) (And.intro (cell_b b1 hb) (And.intro (cell_b b2 hb) (And.intro (cell_b b3 hb) (cell_b b4 hb)))))
  have HB := Aside0.mk (below_drew (Below.refl w5.heap.size w5))
  refine start_ (n := 61) (S := (fun w' => w'.cell? ⟨w.heap.size, 0, none⟩ = some (.int .i64 C.p) ∧ w'.cell? ⟨w.heap.size, 1, none⟩ = some (.int .i64 C.f) ∧ w'.cell? ⟨w.heap.size, 2, none⟩ = some (.slice A2 C.ws.length c2) ∧ w'.cell? ⟨w.heap.size, 3, none⟩ = some (.slice A3 C.ks.length c3) ∧ w'.cell? ⟨w.heap.size, 4, none⟩ = some (.slice A4 C.ac.length c4))) (ds := []) #[false, false, false, false, false, false, false, false, false, false, false, false, false, false, false, false, false, false, false, false, false, false, false, false, false, false, false, false, false, false, false, false, false, false, false, false, false, false, false, false, false, false, false, false, false, false, false, false, false, false, false, false, false, false, false, false, false, false, false, false, false] (by kernel_rfl) rfl rfl (TS.out _ (below_drew (Below.refl _ _))) (fun hHeld => ?_)
  refine pure_ (i := 0) (N := some 39) (v := ?_) (a' := ?_) #[true, false, false, false, false, false, false, false, false, false, false, false, false, false, false, false, false, false, false, false, false, false, false, false, false, false, false, false, false, false, false, false, false, false, false, false, false, false, false, false, false, false, false, false, false, false, false, false, false, false, false, false, false, false, false, false, false, false, false, false, false] rfl rfl (by kernel_rfl) (fun _ _ _ h => h) (Or.inl ⟨by rfl, ?_⟩) ?_ ?_
  rotate_left
  · intro w'
    go_simp
    with_reducible rfl
  rotate_left
  · simp only [Act.put, List.setIfInBounds_toArray, List.set_cons_zero, List.set_cons_succ, i64_w, i32_w]
    rfl
  refine pure_ (i := 1) (N := some 40) (v := ?_) (a' := ?_) #[true, true, false, false, false, false, false, false, false, false, false, false, false, false, false, false, false, false, false, false, false, false, false, false, false, false, false, false, false, false, false, false, false, false, false, false, false, false, false, false, false, false, false, false, false, false, false, false, false, false, false, false, false, false, false, false, false, false, false, false, false] rfl rfl (by kernel_rfl) (fun _ _ _ h => h) (Or.inl ⟨by rfl, ?_⟩) ?_ ?_
  rotate_left
  · intro w'
    go_simp
    with_reducible rfl
  rotate_left
  · simp only [Act.put, List.setIfInBounds_toArray, List.set_cons_zero, List.set_cons_succ, i64_w, i32_w]
    rfl
  refine pure_ (i := 2) (N := some 41) (v := ?_) (a' := ?_) #[true, true, true, false, false, false, false, false, false, false, false, false, false, false, false, false, false, false, false, false, false, false, false, false, false, false, false, false, false, false, false, false, false, false, false, false, false, false, false, false, false, false, false, false, false, false, false, false, false, false, false, false, false, false, false, false, false, false, false, false, false] rfl rfl (by kernel_rfl) (fun _ _ _ h => h) (Or.inl ⟨by rfl, ?_⟩) ?_ ?_
  rotate_left
  · intro w'
    go_simp
    with_reducible rfl
  rotate_left
  · simp only [Act.put, List.setIfInBounds_toArray, List.set_cons_zero, List.set_cons_succ, i64_w, i32_w]
    rfl
  refine pure_ (i := 3) (N := some 42) (v := ?_) (a' := ?_) #[true, true, true, true, false, false, false, false, false, false, false, false, false, false, false, false, false, false, false, false, false, false, false, false, false, false, false, false, false, false, false, false, false, false, false, false, false, false, false, false, false, false, false, false, false, false, false, false, false, false, false, false, false, false, false, false, false, false, false, false, false] rfl rfl (by kernel_rfl) (fun _ _ _ h => h) (Or.inl ⟨by rfl, ?_⟩) ?_ ?_
  rotate_left
  · intro w'
    go_simp
    with_reducible rfl
  rotate_left
  · simp only [Act.put, List.setIfInBounds_toArray, List.set_cons_zero, List.set_cons_succ, i64_w, i32_w]
    rfl
  refine pure_ (i := 4) (N := some 43) (v := ?_) (a' := ?_) #[true, true, true, true, true, false, false, false, false, false, false, false, false, false, false, false, false, false, false, false, false, false, false, false, false, false, false, false, false, false, false, false, false, false, false, false, false, false, false, false, false, false, false, false, false, false, false, false, false, false, false, false, false, false, false, false, false, false, false, false, false] rfl rfl (by kernel_rfl) (fun _ _ _ h => h) (Or.inl ⟨by rfl, ?_⟩) ?_ ?_
  rotate_left
  · intro w'
    go_simp
    with_reducible rfl
  rotate_left
  · simp only [Act.put, List.setIfInBounds_toArray, List.set_cons_zero, List.set_cons_succ, i64_w, i32_w]
    rfl
  refine pure_ (i := 5) (N := some 44) (v := ?_) (a' := ?_) #[true, true, true, true, true, true, false, false, false, false, false, false, false, false, false, false, false, false, false, false, false, false, false, false, false, false, false, false, false, false, false, false, false, false, false, false, false, false, false, false, false, false, false, false, false, false, false, false, false, false, false, false, false, false, false, false, false, false, false, false, false] rfl rfl (by kernel_rfl) (fun _ _ _ h => h) (Or.inl ⟨by rfl, ?_⟩) ?_ ?_
  rotate_left
  · intro w'
    go_simp
    with_reducible rfl
  rotate_left
  · simp only [Act.put, List.setIfInBounds_toArray, List.set_cons_zero, List.set_cons_succ, i64_w, i32_w]
    rfl
  refine pure_ (i := 6) (N := some 45) (v := ?_) (a' := ?_) #[true, true, true, true, true, true, true, false, false, false, false, false, false, false, false, false, false, false, false, false, false, false, false, false, false, false, false, false, false, false, false, false, false, false, false, false, false, false, false, false, false, false, false, false, false, false, false, false, false, false, false, false, false, false, false, false, false, false, false, false, false] rfl rfl (by kernel_rfl) (fun _ _ _ h => h) (Or.inl ⟨by rfl, ?_⟩) ?_ ?_
  rotate_left
  · intro w'
    go_simp
    with_reducible rfl
  rotate_left
  · simp only [Act.put, List.setIfInBounds_toArray, List.set_cons_zero, List.set_cons_succ, i64_w, i32_w]
    rfl
  refine pure_ (i := 7) (N := some 46) (v := ?_) (a' := ?_) #[true, true, true, true, true, true, true, true, false, false, false, false, false, false, false, false, false, false, false, false, false, false, false, false, false, false, false, false, false, false, false, false, false, false, false, false, false, false, false, false, false, false, false, false, false, false, false, false, false, false, false, false, false, false, false, false, false, false, false, false, false] rfl rfl (by kernel_rfl) (fun _ _ _ h => h) (Or.inl ⟨by rfl, ?_⟩) ?_ ?_
  rotate_left
  · intro w'
    go_simp
    with_reducible rfl
  rotate_left
  · simp only [Act.put, List.setIfInBounds_toArray, List.set_cons_zero, List.set_cons_succ, i64_w, i32_w]
    rfl
  refine pure_ (i := 8) (N := some 47) (v := ?_) (a' := ?_) #[true, true, true, true, true, true, true, true, true, false, false, false, false, false, false, false, false, false, false, false, false, false, false, false, false, false, false, false, false, false, false, false, false, false, false, false, false, false, false, false, false, false, false, false, false, false, false, false, false, false, false, false, false, false, false, false, false, false, false, false, false] rfl rfl (by kernel_rfl) (fun _ _ _ h => h) (Or.inl ⟨by rfl, ?_⟩) ?_ ?_
  rotate_left
  · intro w'
    go_simp
    with_reducible rfl
  rotate_left
  · simp only [Act.put, List.setIfInBounds_toArray, List.set_cons_zero, List.set_cons_succ, i64_w, i32_w]
    rfl
  refine pure_ (i := 9) (N := some 48) (v := ?_) (a' := ?_) #[true, true, true, true, true, true, true, true, true, true, false, false, false, false, false, false, false, false, false, false, false, false, false, false, false, false, false, false, false, false, false, false, false, false, false, false, false, false, false, false, false, false, false, false, false, false, false, false, false, false, false, false, false, false, false, false, false, false, false, false, false] rfl rfl (by kernel_rfl) (fun _ _ _ h => h) (Or.inl ⟨by rfl, ?_⟩) ?_ ?_
  rotate_left
  · intro w'
    go_simp
    with_reducible rfl
  rotate_left
  · simp only [Act.put, List.setIfInBounds_toArray, List.set_cons_zero, List.set_cons_succ, i64_w, i32_w]
    rfl
  refine pure_ (i := 10) (N := some 49) (v := ?_) (a' := ?_) #[true, true, true, true, true, true, true, true, true, true, true, false, false, false, false, false, false, false, false, false, false, false, false, false, false, false, false, false, false, false, false, false, false, false, false, false, false, false, false, false, false, false, false, false, false, false, false, false, false, false, false, false, false, false, false, false, false, false, false, false, false] rfl rfl (by kernel_rfl) (fun _ _ _ h => h) (Or.inl ⟨by rfl, ?_⟩) ?_ ?_
  rotate_left
  · intro w'
    go_simp
    with_reducible rfl
  rotate_left
  · simp only [Act.put, List.setIfInBounds_toArray, List.set_cons_zero, List.set_cons_succ, i64_w, i32_w]
    rfl
  refine pure_ (i := 11) (N := some 50) (v := ?_) (a' := ?_) #[true, true, true, true, true, true, true, true, true, true, true, true, false, false, false, false, false, false, false, false, false, false, false, false, false, false, false, false, false, false, false, false, false, false, false, false, false, false, false, false, false, false, false, false, false, false, false, false, false, false, false, false, false, false, false, false, false, false, false, false, false] rfl rfl (by kernel_rfl) (fun _ _ _ h => h) (Or.inl ⟨by rfl, ?_⟩) ?_ ?_
  rotate_left
  · intro w'
    go_simp
    with_reducible rfl
  rotate_left
  · simp only [Act.put, List.setIfInBounds_toArray, List.set_cons_zero, List.set_cons_succ, i64_w, i32_w]
    rfl
  refine pure_ (i := 12) (N := some 51) (v := ?_) (a' := ?_) #[true, true, true, true, true, true, true, true, true, true, true, true, true, false, false, false, false, false, false, false, false, false, false, false, false, false, false, false, false, false, false, false, false, false, false, false, false, false, false, false, false, false, false, false, false, false, false, false, false, false, false, false, false, false, false, false, false, false, false, false, false] rfl rfl (by kernel_rfl) (fun _ _ _ h => h) (Or.inl ⟨by rfl, ?_⟩) ?_ ?_
  rotate_left
  · intro w'
    go_simp
    with_reducible rfl
  rotate_left
  · simp only [Act.put, List.setIfInBounds_toArray, List.set_cons_zero, List.set_cons_succ, i64_w, i32_w]
    rfl
  refine pure_ (i := 13) (N := some 52) (v := ?_) (a' := ?_) #[true, true, true, true, true, true, true, true, true, true, true, true, true, true, false, false, false, false, false, false, false, false, false, false, false, false, false, false, false, false, false, false, false, false, false, false, false, false, false, false, false, false, false, false, false, false, false, false, false, false, false, false, false, false, false, false, false, false, false, false, false] rfl rfl (by kernel_rfl) (fun _ _ _ h => h) (Or.inl ⟨by rfl, ?_⟩) ?_ ?_
  rotate_left
  · intro w'
    go_simp
    with_reducible rfl
  rotate_left
  · simp only [Act.put, List.setIfInBounds_toArray, List.set_cons_zero, List.set_cons_succ, i64_w, i32_w]
    rfl
  refine pure_ (i := 14) (N := some 53) (v := ?_) (a' := ?_) #[true, true, true, true, true, true, true, true, true, true, true, true, true, true, true, false, false, false, false, false, false, false, false, false, false, false, false, false, false, false, false, false, false, false, false, false, false, false, false, false, false, false, false, false, false, false, false, false, false, false, false, false, false, false, false, false, false, false, false, false, false] rfl rfl (by kernel_rfl) (fun _ _ _ h => h) (Or.inl ⟨by rfl, ?_⟩) ?_ ?_
  rotate_left
  · intro w'
    go_simp
    with_reducible rfl
  rotate_left
  · simp only [Act.put, List.setIfInBounds_toArray, List.set_cons_zero, List.set_cons_succ, i64_w, i32_w]
    rfl
  refine pure_ (i := 15) (N := some 54) (v := ?_) (a' := ?_) #[true, true, true, true, true, true, true, true, true, true, true, true, true, true, true, true, false, false, false, false, false, false, false, false, false, false, false, false, false, false, false, false, false, false, false, false, false, false, false, false, false, false, false, false, false, false, false, false, false, false, false, false, false, false, false, false, false, false, false, false, false] rfl rfl (by kernel_rfl) (fun _ _ _ h => h) (Or.inl ⟨by rfl, ?_⟩) ?_ ?_
  rotate_left
  · intro w'
    go_simp
    with_reducible rfl
  rotate_left
  · simp only [Act.put, List.setIfInBounds_toArray, List.set_cons_zero, List.set_cons_succ, i64_w, i32_w]
    rfl
  refine pure_ (i := 16) (N := some 55) (v := ?_) (a' := ?_) #[true, true, true, true, true, true, true, true, true, true, true, true, true, true, true, true, true, false, false, false, false, false, false, false, false, false, false, false, false, false, false, false, false, false, false, false, false, false, false, false, false, false, false, false, false, false, false, false, false, false, false, false, false, false, false, false, false, false, false, false, false] rfl rfl (by kernel_rfl) (fun _ _ _ h => h) (Or.inl ⟨by rfl, ?_⟩) ?_ ?_
  rotate_left
  · intro w'
    go_simp
    with_reducible rfl
  rotate_left
  · simp only [Act.put, List.setIfInBounds_toArray, List.set_cons_zero, List.set_cons_succ, i64_w, i32_w]
    rfl
  refine pure_ (i := 17) (N := some 56) (v := ?_) (a' := ?_) #[true, true, true, true, true, true, true, true, true, true, true, true, true, true, true, true, true, true, false, false, false, false, false, false, false, false, false, false, false, false, false, false, false, false, false, false, false, false, false, false, false, false, false, false, false, false, false, false, false, false, false, false, false, false, false, false, false, false, false, false, false] rfl rfl (by kernel_rfl) (fun _ _ _ h => h) (Or.inl ⟨by rfl, ?_⟩) ?_ ?_
  rotate_left
  · intro w'
    go_simp
    with_reducible rfl
  rotate_left
  · simp only [Act.put, List.setIfInBounds_toArray, List.set_cons_zero, List.set_cons_succ, i64_w, i32_w]
    rfl
  refine pure_ (i := 18) (N := some 57) (v := ?_) (a' := ?_) #[true, true, true, true, true, true, true, true, true, true, true, true, true, true, true, true, true, true, true, false, false, false, false, false, false, false, false, false, false, false, false, false, false, false, false, false, false, false, false, false, false, false, false, false, false, false, false, false, false, false, false, false, false, false, false, false, false, false, false, false, false] rfl rfl (by kernel_rfl) (fun _ _ _ h => h) (Or.inl ⟨by rfl, ?_⟩) ?_ ?_
  rotate_left
  · intro w'
    go_simp
    with_reducible rfl
  rotate_left
  · simp only [Act.put, List.setIfInBounds_toArray, List.set_cons_zero, List.set_cons_succ, i64_w, i32_w]
    rfl
  refine take_ (i := 19) (N := some 58) (v := ?_) (a' := ?_) #[true, true, true, true, true, true, true, true, true, true, true, true, true, true, true, true, true, true, true, true, false, false, false, false, false, false, false, false, false, false, false, false, false, false, false, false, false, false, false, false, false, false, false, false, false, false, false, false, false, false, false, false, false, false, false, false, false, false, false, false, false] rfl rfl (by kernel_rfl) (fun _ _ _ h => h) (Or.inl ⟨by rfl, ?_⟩) hHeld ?_ ?_
  rotate_left
  · intro w' hSw
    obtain ⟨s0, s1, s2, s3, s4⟩ := hSw
    go_simp
    with_reducible rfl
  rotate_left
  · simp only [Act.put, List.setIfInBounds_toArray, List.set_cons_zero, List.set_cons_succ, i64_w, i32_w]
    rfl
  refine pure_ (i := 20) (N := some 59) (v := ?_) (a' := ?_) #[true, true, true, true, true, true, true, true, true, true, true, true, true, true, true, true, true, true, true, true, true, false, false, false, false, false, false, false, false, false, false, false, false, false, false, false, false, false, false, false, false, false, false, false, false, false, false, false, false, false, false, false, false, false, false, false, false, false, false, false, false] rfl rfl (by kernel_rfl) (fun _ _ _ h => h) (Or.inl ⟨by rfl, ?_⟩) ?_ ?_
  rotate_left
  · intro w'
    go_simp
    with_reducible rfl
  rotate_left
  · simp only [Act.put, List.setIfInBounds_toArray, List.set_cons_zero, List.set_cons_succ, i64_w, i32_w]
    rfl
  refine take_ (i := 22) (N := some 61) (v := ?_) (a' := ?_) #[true, true, true, true, true, true, true, true, true, true, true, true, true, true, true, true, true, true, true, true, true, false, true, false, false, false, false, false, false, false, false, false, false, false, false, false, false, false, false, false, false, false, false, false, false, false, false, false, false, false, false, false, false, false, false, false, false, false, false, false, false] rfl rfl (by kernel_rfl) (fun _ _ _ h => h) (Or.inl ⟨by rfl, ?_⟩) hHeld ?_ ?_
  rotate_left
  · intro w' hSw
    obtain ⟨s0, s1, s2, s3, s4⟩ := hSw
    go_simp
    with_reducible rfl
  rotate_left
  · simp only [Act.put, List.setIfInBounds_toArray, List.set_cons_zero, List.set_cons_succ, i64_w, i32_w]
    rfl
  refine pure_ (i := 23) (N := some 62) (v := ?_) (a' := ?_) #[true, true, true, true, true, true, true, true, true, true, true, true, true, true, true, true, true, true, true, true, true, false, true, true, false, false, false, false, false, false, false, false, false, false, false, false, false, false, false, false, false, false, false, false, false, false, false, false, false, false, false, false, false, false, false, false, false, false, false, false, false] rfl rfl (by kernel_rfl) (fun _ _ _ h => h) (Or.inl ⟨by rfl, ?_⟩) ?_ ?_
  rotate_left
  · intro w'
    go_simp
    with_reducible rfl
  rotate_left
  · simp only [Act.put, List.setIfInBounds_toArray, List.set_cons_zero, List.set_cons_succ, i64_w, i32_w]
    rfl
  clear hHeld
  refine one_ (i := 21) (N := some 60) #[true, true, true, true, true, true, true, true, true, true, true, true, true, true, true, true, true, true, true, true, true, true, true, true, false, false, false, false, false, false, false, false, false, false, false, false, false, false, false, false, false, false, false, false, false, false, false, false, false, false, false, false, false, false, false, false, false, false, false, false, false] rfl rfl (by kernel_rfl) (by decide) (fun K hK => ?_)
  refine goes_ Tryd.func17 (by kernel_rfl) rfl #[.agg #[.int .i64 C.p, .int .i64 C.f, .slice A2 C.ws.length c2, .slice A3 C.ks.length c3, .slice A4 C.ac.length c4], .int .i64 o] (by rfl) rfl rfl (by (try simp only [List.map_toArray, List.map_cons, List.map_nil]); first | done | rfl | (simp only [List.length_drop, List.length_take]; rfl)) ?_
  (with_reducible refine (C3.out _ (below_step H5.out.2 HB.out)).mono ?_)
  rintro e w11 ⟨rfl, hb⟩
  refine ⟨_, rfl, ?_⟩
  have HBn := Aside0.mk (below_step HB.out hb)
  clear HB
  have HB := HBn
  clear HBn
  clear hb
  refine hK.out _ _ (TS.out _ HB.out) (fun hHeld => ?_)
  clear hK K
  refine norm_ (a' := ?_) ?_ ?_
  rotate_left
  · show Act.put _ (some 60) _ = _
    simp only [Act.put, List.setIfInBounds_toArray, List.set_cons_zero, List.set_cons_succ, i64_w, i32_w]
    rfl
  clear hHeld
  refine one_ (i := 24) (N := some 63) #[true, true, true, true, true, true, true, true, true, true, true, true, true, true, true, true, true, true, true, true, true, true, true, true, true, false, false, false, false, false, false, false, false, false, false, false, false, false, false, false, false, false, false, false, false, false, false, false, false, false, false, false, false, false, false, false, false, false, false, false, false] rfl rfl (by kernel_rfl) (by decide) (fun K hK => ?_)
  refine goes_ Tryd.func34 (by kernel_rfl) rfl #[.agg #[.int .i64 C.p, .int .i64 C.f, .slice A2 C.ws.length c2, .slice A3 C.ks.length c3, .slice A4 C.ac.length c4], .int .i64 o] (by rfl) rfl rfl (by (try simp only [List.map_toArray, List.map_cons, List.map_nil]); first | done | rfl | (simp only [List.length_drop, List.length_take]; rfl)) ?_
  (with_reducible refine (D3.out _ (below_step H5.out.2 HB.out)).mono ?_)
  rintro e w11 ⟨rfl, hb⟩
  refine ⟨_, rfl, ?_⟩
  have HBn := Aside0.mk (below_step HB.out hb)
  clear HB
  have HB := HBn
  clear HBn
  clear hb
  refine hK.out _ _ (TS.out _ HB.out) (fun hHeld => ?_)
  clear hK K
  refine norm_ (a' := ?_) ?_ ?_
  rotate_left
  · show Act.put _ (some 63) _ = _
    simp only [Act.put, List.setIfInBounds_toArray, List.set_cons_zero, List.set_cons_succ, i64_w, i32_w]
    rfl
  refine pure_ (i := 25) (N := some 64) (v := ?_) (a' := ?_) #[true, true, true, true, true, true, true, true, true, true, true, true, true, true, true, true, true, true, true, true, true, true, true, true, true, true, false, false, false, false, false, false, false, false, false, false, false, false, false, false, false, false, false, false, false, false, false, false, false, false, false, false, false, false, false, false, false, false, false, false, false] rfl rfl (by kernel_rfl) (fun _ _ _ h => h) (Or.inl ⟨by rfl, ?_⟩) ?_ ?_
  rotate_left
  · intro w'
    go_simp
    with_reducible rfl
  rotate_left
  · simp only [Act.put, List.setIfInBounds_toArray, List.set_cons_zero, List.set_cons_succ, i64_w, i32_w]
    rfl
  refine pure_ (i := 26) (N := some 65) (v := ?_) (a' := ?_) #[true, true, true, true, true, true, true, true, true, true, true, true, true, true, true, true, true, true, true, true, true, true, true, true, true, true, true, false, false, false, false, false, false, false, false, false, false, false, false, false, false, false, false, false, false, false, false, false, false, false, false, false, false, false, false, false, false, false, false, false, false] rfl rfl (by kernel_rfl) (fun _ _ _ h => h) (Or.inl ⟨by rfl, ?_⟩) ?_ ?_
  rotate_left
  · intro w'
    go_simp
    with_reducible rfl
  rotate_left
  · simp only [Act.put, List.setIfInBounds_toArray, List.set_cons_zero, List.set_cons_succ, i64_w, i32_w]
    rfl
  refine pure_ (i := 27) (N := some 66) (v := ?_) (a' := ?_) #[true, true, true, true, true, true, true, true, true, true, true, true, true, true, true, true, true, true, true, true, true, true, true, true, true, true, true, true, false, false, false, false, false, false, false, false, false, false, false, false, false, false, false, false, false, false, false, false, false, false, false, false, false, false, false, false, false, false, false, false, false] rfl rfl (by kernel_rfl) (fun _ _ _ h => h) (Or.inl ⟨by rfl, ?_⟩) ?_ ?_
  rotate_left
  · intro w'
    go_simp
    with_reducible rfl
  rotate_left
  · simp only [Act.put, List.setIfInBounds_toArray, List.set_cons_zero, List.set_cons_succ, i64_w, i32_w]
    rfl
  refine take_ (i := 28) (N := some 67) (v := ?_) (a' := ?_) #[true, true, true, true, true, true, true, true, true, true, true, true, true, true, true, true, true, true, true, true, true, true, true, true, true, true, true, true, true, false, false, false, false, false, false, false, false, false, false, false, false, false, false, false, false, false, false, false, false, false, false, false, false, false, false, false, false, false, false, false, false] rfl rfl (by kernel_rfl) (fun _ _ _ h => h) (Or.inl ⟨by rfl, ?_⟩) hHeld ?_ ?_
  rotate_left
  · intro w' hSw
    obtain ⟨s0, s1, s2, s3, s4⟩ := hSw
    go_simp
    with_reducible rfl
  rotate_left
  · simp only [Act.put, List.setIfInBounds_toArray, List.set_cons_zero, List.set_cons_succ, i64_w, i32_w]
    rfl
  refine pure_ (i := 29) (N := some 68) (v := ?_) (a' := ?_) #[true, true, true, true, true, true, true, true, true, true, true, true, true, true, true, true, true, true, true, true, true, true, true, true, true, true, true, true, true, true, false, false, false, false, false, false, false, false, false, false, false, false, false, false, false, false, false, false, false, false, false, false, false, false, false, false, false, false, false, false, false] rfl rfl (by kernel_rfl) (fun _ _ _ h => h) (Or.inl ⟨by rfl, ?_⟩) ?_ ?_
  rotate_left
  · intro w'
    go_simp
    with_reducible rfl
  rotate_left
  · simp only [Act.put, List.setIfInBounds_toArray, List.set_cons_zero, List.set_cons_succ, i64_w, i32_w]
    rfl
  refine pure_ (i := 30) (N := some 69) (v := ?_) (a' := ?_) #[true, true, true, true, true, true, true, true, true, true, true, true, true, true, true, true, true, true, true, true, true, true, true, true, true, true, true, true, true, true, true, false, false, false, false, false, false, false, false, false, false, false, false, false, false, false, false, false, false, false, false, false, false, false, false, false, false, false, false, false, false] rfl rfl (by kernel_rfl) (fun _ _ _ h => h) (Or.inl ⟨by rfl, ?_⟩) ?_ ?_
  rotate_left
  · intro w'
    go_simp
    with_reducible rfl
  rotate_left
  · simp only [Act.put, List.setIfInBounds_toArray, List.set_cons_zero, List.set_cons_succ, i64_w, i32_w]
    rfl
  refine take_ (i := 32) (N := some 71) (v := ?_) (a' := ?_) #[true, true, true, true, true, true, true, true, true, true, true, true, true, true, true, true, true, true, true, true, true, true, true, true, true, true, true, true, true, true, true, false, true, false, false, false, false, false, false, false, false, false, false, false, false, false, false, false, false, false, false, false, false, false, false, false, false, false, false, false, false] rfl rfl (by kernel_rfl) (fun _ _ _ h => h) (Or.inl ⟨by rfl, ?_⟩) hHeld ?_ ?_
  rotate_left
  · intro w' hSw
    obtain ⟨s0, s1, s2, s3, s4⟩ := hSw
    go_simp
    with_reducible rfl
  rotate_left
  · simp only [Act.put, List.setIfInBounds_toArray, List.set_cons_zero, List.set_cons_succ, i64_w, i32_w]
    rfl
  refine pure_ (i := 33) (N := some 72) (v := ?_) (a' := ?_) #[true, true, true, true, true, true, true, true, true, true, true, true, true, true, true, true, true, true, true, true, true, true, true, true, true, true, true, true, true, true, true, false, true, true, false, false, false, false, false, false, false, false, false, false, false, false, false, false, false, false, false, false, false, false, false, false, false, false, false, false, false] rfl rfl (by kernel_rfl) (fun _ _ _ h => h) (Or.inl ⟨by rfl, ?_⟩) ?_ ?_
  rotate_left
  · intro w'
    go_simp
    with_reducible rfl
  rotate_left
  · simp only [Act.put, List.setIfInBounds_toArray, List.set_cons_zero, List.set_cons_succ, i64_w, i32_w]
    rfl
  refine pure_ (i := 34) (N := some 73) (v := ?_) (a' := ?_) #[true, true, true, true, true, true, true, true, true, true, true, true, true, true, true, true, true, true, true, true, true, true, true, true, true, true, true, true, true, true, true, false, true, true, true, false, false, false, false, false, false, false, false, false, false, false, false, false, false, false, false, false, false, false, false, false, false, false, false, false, false] rfl rfl (by kernel_rfl) (fun _ _ _ h => h) (Or.inl ⟨by rfl, ?_⟩) ?_ ?_
  rotate_left
  · intro w'
    go_simp
    with_reducible rfl
  rotate_left
  · simp only [Act.put, List.setIfInBounds_toArray, List.set_cons_zero, List.set_cons_succ, i64_w, i32_w]
    rfl
  clear hHeld
  refine one_ (i := 31) (N := some 70) #[true, true, true, true, true, true, true, true, true, true, true, true, true, true, true, true, true, true, true, true, true, true, true, true, true, true, true, true, true, true, true, true, true, true, true, false, false, false, false, false, false, false, false, false, false, false, false, false, false, false, false, false, false, false, false, false, false, false, false, false, false] rfl rfl (by kernel_rfl) (by decide) (fun K hK => ?_)
  refine goes_ Tryd.func13 (by kernel_rfl) rfl #[.agg #[.int .i64 C.p, .int .i64 C.f, .slice A2 C.ws.length c2, .slice A3 C.ks.length c3, .slice A4 C.ac.length c4], .int .i64 o, .int .i64 now] (by rfl) rfl rfl (by (try simp only [List.map_toArray, List.map_cons, List.map_nil]); first | done | rfl | (simp only [List.length_drop, List.length_take]; rfl)) ?_
  (with_reducible refine (C4.out _ (below_step H5.out.2 HB.out)).mono ?_)
  rintro e w11 ⟨rfl, hb⟩
  refine ⟨_, rfl, ?_⟩
  have HBn := Aside0.mk (below_step HB.out hb)
  clear HB
  have HB := HBn
  clear HBn
  clear hb
  refine hK.out _ _ (TS.out _ HB.out) (fun hHeld => ?_)
  clear hK K
  refine norm_ (a' := ?_) ?_ ?_
  rotate_left
  · show Act.put _ (some 70) _ = _
    simp only [Act.put, List.setIfInBounds_toArray, List.set_cons_zero, List.set_cons_succ, i64_w, i32_w]
    rfl
  clear hHeld
  refine one_ (i := 35) (N := some 74) #[true, true, true, true, true, true, true, true, true, true, true, true, true, true, true, true, true, true, true, true, true, true, true, true, true, true, true, true, true, true, true, true, true, true, true, true, false, false, false, false, false, false, false, false, false, false, false, false, false, false, false, false, false, false, false, false, false, false, false, false, false] rfl rfl (by kernel_rfl) (by decide) (fun K hK => ?_)
  refine goes_ Tryd.func35 (by kernel_rfl) rfl #[.agg #[.int .i64 C.p, .int .i64 C.f, .slice A2 C.ws.length c2, .slice A3 C.ks.length c3, .slice A4 C.ac.length c4], .int .i64 o, .int .i64 now] (by rfl) rfl rfl (by (try simp only [List.map_toArray, List.map_cons, List.map_nil]); first | done | rfl | (simp only [List.length_drop, List.length_take]; rfl)) ?_
  (with_reducible refine (D4.out _ (below_step H5.out.2 HB.out)).mono ?_)
  rintro e w11 ⟨rfl, hb⟩
  refine ⟨_, rfl, ?_⟩
  have HBn := Aside0.mk (below_step HB.out hb)
  clear HB
  have HB := HBn
  clear HBn
  clear hb
  refine hK.out _ _ (TS.out _ HB.out) (fun hHeld => ?_)
  clear hK K
  refine norm_ (a' := ?_) ?_ ?_
  rotate_left
  · show Act.put _ (some 74) _ = _
    simp only [Act.put, List.setIfInBounds_toArray, List.set_cons_zero, List.set_cons_succ, i64_w, i32_w]
    rfl
  refine pure_ (i := 36) (N := some 75) (v := ?_) (a' := ?_) #[true, true, true, true, true, true, true, true, true, true, true, true, true, true, true, true, true, true, true, true, true, true, true, true, true, true, true, true, true, true, true, true, true, true, true, true, true, false, false, false, false, false, false, false, false, false, false, false, false, false, false, false, false, false, false, false, false, false, false, false, false] rfl rfl (by kernel_rfl) (fun _ _ _ h => h) (Or.inl ⟨by rfl, ?_⟩) ?_ ?_
  rotate_left
  · intro w'
    go_simp
    with_reducible rfl
  rotate_left
  · simp only [Act.put, List.setIfInBounds_toArray, List.set_cons_zero, List.set_cons_succ, i64_w, i32_w]
    rfl
  refine pure_ (i := 37) (N := some 76) (v := ?_) (a' := ?_) #[true, true, true, true, true, true, true, true, true, true, true, true, true, true, true, true, true, true, true, true, true, true, true, true, true, true, true, true, true, true, true, true, true, true, true, true, true, true, false, false, false, false, false, false, false, false, false, false, false, false, false, false, false, false, false, false, false, false, false, false, false] rfl rfl (by kernel_rfl) (fun _ _ _ h => h) (Or.inl ⟨by rfl, ?_⟩) ?_ ?_
  rotate_left
  · intro w'
    go_simp
    with_reducible rfl
  rotate_left
  · simp only [Act.put, List.setIfInBounds_toArray, List.set_cons_zero, List.set_cons_succ, i64_w, i32_w]
    rfl
  refine pure_ (i := 38) (N := some 77) (v := ?_) (a' := ?_) #[true, true, true, true, true, true, true, true, true, true, true, true, true, true, true, true, true, true, true, true, true, true, true, true, true, true, true, true, true, true, true, true, true, true, true, true, true, true, true, false, false, false, false, false, false, false, false, false, false, false, false, false, false, false, false, false, false, false, false, false, false] rfl rfl (by kernel_rfl) (fun _ _ _ h => h) (Or.inl ⟨by rfl, ?_⟩) ?_ ?_
  rotate_left
  · intro w'
    go_simp
    with_reducible rfl
  rotate_left
  · simp only [Act.put, List.setIfInBounds_toArray, List.set_cons_zero, List.set_cons_succ, i64_w, i32_w]
    rfl
  refine take_ (i := 39) (N := some 78) (v := ?_) (a' := ?_) #[true, true, true, true, true, true, true, true, true, true, true, true, true, true, true, true, true, true, true, true, true, true, true, true, true, true, true, true, true, true, true, true, true, true, true, true, true, true, true, true, false, false, false, false, false, false, false, false, false, false, false, false, false, false, false, false, false, false, false, false, false] rfl rfl (by kernel_rfl) (fun _ _ _ h => h) (Or.inl ⟨by rfl, ?_⟩) hHeld ?_ ?_
  rotate_left
  · intro w' hSw
    obtain ⟨s0, s1, s2, s3, s4⟩ := hSw
    go_simp
    with_reducible rfl
  rotate_left
  · simp only [Act.put, List.setIfInBounds_toArray, List.set_cons_zero, List.set_cons_succ, i64_w, i32_w]
    rfl
  refine pure_ (i := 40) (N := some 79) (v := ?_) (a' := ?_) #[true, true, true, true, true, true, true, true, true, true, true, true, true, true, true, true, true, true, true, true, true, true, true, true, true, true, true, true, true, true, true, true, true, true, true, true, true, true, true, true, true, false, false, false, false, false, false, false, false, false, false, false, false, false, false, false, false, false, false, false, false] rfl rfl (by kernel_rfl) (fun _ _ _ h => h) (Or.inl ⟨by rfl, ?_⟩) ?_ ?_
  rotate_left
  · intro w'
    go_simp
    with_reducible rfl
  rotate_left
  · simp only [Act.put, List.setIfInBounds_toArray, List.set_cons_zero, List.set_cons_succ, i64_w, i32_w]
    rfl
  refine pure_ (i := 41) (N := some 80) (v := ?_) (a' := ?_) #[true, true, true, true, true, true, true, true, true, true, true, true, true, true, true, true, true, true, true, true, true, true, true, true, true, true, true, true, true, true, true, true, true, true, true, true, true, true, true, true, true, true, false, false, false, false, false, false, false, false, false, false, false, false, false, false, false, false, false, false, false] rfl rfl (by kernel_rfl) (fun _ _ _ h => h) (Or.inl ⟨by rfl, ?_⟩) ?_ ?_
  rotate_left
  · intro w'
    go_simp
    with_reducible rfl
  rotate_left
  · simp only [Act.put, List.setIfInBounds_toArray, List.set_cons_zero, List.set_cons_succ, i64_w, i32_w]
    rfl
  refine take_ (i := 43) (N := some 82) (v := ?_) (a' := ?_) #[true, true, true, true, true, true, true, true, true, true, true, true, true, true, true, true, true, true, true, true, true, true, true, true, true, true, true, true, true, true, true, true, true, true, true, true, true, true, true, true, true, true, false, true, false, false, false, false, false, false, false, false, false, false, false, false, false, false, false, false, false] rfl rfl (by kernel_rfl) (fun _ _ _ h => h) (Or.inl ⟨by rfl, ?_⟩) hHeld ?_ ?_
  rotate_left
  · intro w' hSw
    obtain ⟨s0, s1, s2, s3, s4⟩ := hSw
    go_simp
    with_reducible rfl
  rotate_left
  · simp only [Act.put, List.setIfInBounds_toArray, List.set_cons_zero, List.set_cons_succ, i64_w, i32_w]
    rfl
  refine pure_ (i := 44) (N := some 83) (v := ?_) (a' := ?_) #[true, true, true, true, true, true, true, true, true, true, true, true, true, true, true, true, true, true, true, true, true, true, true, true, true, true, true, true, true, true, true, true, true, true, true, true, true, true, true, true, true, true, false, true, true, false, false, false, false, false, false, false, false, false, false, false, false, false, false, false, false] rfl rfl (by kernel_rfl) (fun _ _ _ h => h) (Or.inl ⟨by rfl, ?_⟩) ?_ ?_
  rotate_left
  · intro w'
    go_simp
    with_reducible rfl
  rotate_left
  · simp only [Act.put, List.setIfInBounds_toArray, List.set_cons_zero, List.set_cons_succ, i64_w, i32_w]
    rfl
  refine pure_ (i := 45) (N := some 84) (v := ?_) (a' := ?_) #[true, true, true, true, true, true, true, true, true, true, true, true, true, true, true, true, true, true, true, true, true, true, true, true, true, true, true, true, true, true, true, true, true, true, true, true, true, true, true, true, true, true, false, true, true, true, false, false, false, false, false, false, false, false, false, false, false, false, false, false, false] rfl rfl (by kernel_rfl) (fun _ _ _ h => h) (Or.inl ⟨by rfl, ?_⟩) ?_ ?_
  rotate_left
  · intro w'
    go_simp
    with_reducible rfl
  rotate_left
  · simp only [Act.put, List.setIfInBounds_toArray, List.set_cons_zero, List.set_cons_succ, i64_w, i32_w]
    rfl
  clear hHeld
  refine one_ (i := 42) (N := some 81) #[true, true, true, true, true, true, true, true, true, true, true, true, true, true, true, true, true, true, true, true, true, true, true, true, true, true, true, true, true, true, true, true, true, true, true, true, true, true, true, true, true, true, true, true, true, true, false, false, false, false, false, false, false, false, false, false, false, false, false, false, false] rfl rfl (by kernel_rfl) (by decide) (fun K hK => ?_)
  refine goes_ Tryd.func16 (by kernel_rfl) rfl #[.agg #[.int .i64 C.p, .int .i64 C.f, .slice A2 C.ws.length c2, .slice A3 C.ks.length c3, .slice A4 C.ac.length c4], .int .i64 o, .int .i64 now] (by rfl) rfl rfl (by (try simp only [List.map_toArray, List.map_cons, List.map_nil]); first | done | rfl | (simp only [List.length_drop, List.length_take]; rfl)) ?_
  (with_reducible refine (C5.out _ (below_step H5.out.2 HB.out)).mono ?_)
  rintro e w11 ⟨rfl, hb⟩
  refine ⟨_, rfl, ?_⟩
  have HBn := Aside0.mk (below_step HB.out hb)
  clear HB
  have HB := HBn
  clear HBn
  clear hb
  refine hK.out _ _ (TS.out _ HB.out) (fun hHeld => ?_)
  clear hK K
  refine norm_ (a' := ?_) ?_ ?_
  rotate_left
  · show Act.put _ (some 81) _ = _
    simp only [Act.put, List.setIfInBounds_toArray, List.set_cons_zero, List.set_cons_succ, i64_w, i32_w]
    rfl
  clear hHeld
  refine one_ (i := 46) (N := some 85) #[true, true, true, true, true, true, true, true, true, true, true, true, true, true, true, true, true, true, true, true, true, true, true, true, true, true, true, true, true, true, true, true, true, true, true, true, true, true, true, true, true, true, true, true, true, true, true, false, false, false, false, false, false, false, false, false, false, false, false, false, false] rfl rfl (by kernel_rfl) (by decide) (fun K hK => ?_)
  refine goes_ Tryd.func36 (by kernel_rfl) rfl #[.agg #[.int .i64 C.p, .int .i64 C.f, .slice A2 C.ws.length c2, .slice A3 C.ks.length c3, .slice A4 C.ac.length c4], .int .i64 o, .int .i64 now] (by rfl) rfl rfl (by (try simp only [List.map_toArray, List.map_cons, List.map_nil]); first | done | rfl | (simp only [List.length_drop, List.length_take]; rfl)) ?_
  (with_reducible refine (D5.out _ (below_step H5.out.2 HB.out)).mono ?_)
  rintro e w11 ⟨rfl, hb⟩
  refine ⟨_, rfl, ?_⟩
  have HBn := Aside0.mk (below_step HB.out hb)
  clear HB
  have HB := HBn
  clear HBn
  clear hb
  refine hK.out _ _ (TS.out _ HB.out) (fun hHeld => ?_)
  clear hK K
  refine norm_ (a' := ?_) ?_ ?_
  rotate_left
  · show Act.put _ (some 85) _ = _
    simp only [Act.put, List.setIfInBounds_toArray, List.set_cons_zero, List.set_cons_succ, i64_w, i32_w]
    rfl
  refine pure_ (i := 47) (N := some 86) (v := ?_) (a' := ?_) #[true, true, true, true, true, true, true, true, true, true, true, true, true, true, true, true, true, true, true, true, true, true, true, true, true, true, true, true, true, true, true, true, true, true, true, true, true, true, true, true, true, true, true, true, true, true, true, true, false, false, false, false, false, false, false, false, false, false, false, false, false] rfl rfl (by kernel_rfl) (fun _ _ _ h => h) (Or.inl ⟨by rfl, ?_⟩) ?_ ?_
  rotate_left
  · intro w'
    go_simp
    with_reducible rfl
  rotate_left
  · simp only [Act.put, List.setIfInBounds_toArray, List.set_cons_zero, List.set_cons_succ, i64_w, i32_w]
    rfl
  refine pure_ (i := 48) (N := some 87) (v := ?_) (a' := ?_) #[true, true, true, true, true, true, true, true, true, true, true, true, true, true, true, true, true, true, true, true, true, true, true, true, true, true, true, true, true, true, true, true, true, true, true, true, true, true, true, true, true, true, true, true, true, true, true, true, true, false, false, false, false, false, false, false, false, false, false, false, false] rfl rfl (by kernel_rfl) (fun _ _ _ h => h) (Or.inl ⟨by rfl, ?_⟩) ?_ ?_
  rotate_left
  · intro w'
    go_simp
    with_reducible rfl
  rotate_left
  · simp only [Act.put, List.setIfInBounds_toArray, List.set_cons_zero, List.set_cons_succ, i64_w, i32_w]
    rfl
  refine pure_ (i := 49) (N := some 88) (v := ?_) (a' := ?_) #[true, true, true, true, true, true, true, true, true, true, true, true, true, true, true, true, true, true, true, true, true, true, true, true, true, true, true, true, true, true, true, true, true, true, true, true, true, true, true, true, true, true, true, true, true, true, true, true, true, true, false, false, false, false, false, false, false, false, false, false, false] rfl rfl (by kernel_rfl) (fun _ _ _ h => h) (Or.inl ⟨by rfl, ?_⟩) ?_ ?_
  rotate_left
  · intro w'
    go_simp
    with_reducible rfl
  rotate_left
  · simp only [Act.put, List.setIfInBounds_toArray, List.set_cons_zero, List.set_cons_succ, i64_w, i32_w]
    rfl
  refine take_ (i := 50) (N := some 89) (v := ?_) (a' := ?_) #[true, true, true, true, true, true, true, true, true, true, true, true, true, true, true, true, true, true, true, true, true, true, true, true, true, true, true, true, true, true, true, true, true, true, true, true, true, true, true, true, true, true, true, true, true, true, true, true, true, true, true, false, false, false, false, false, false, false, false, false, false] rfl rfl (by kernel_rfl) (fun _ _ _ h => h) (Or.inl ⟨by rfl, ?_⟩) hHeld ?_ ?_
  rotate_left
  · intro w' hSw
    obtain ⟨s0, s1, s2, s3, s4⟩ := hSw
    go_simp
    with_reducible rfl
  rotate_left
  · simp only [Act.put, List.setIfInBounds_toArray, List.set_cons_zero, List.set_cons_succ, i64_w, i32_w]
    rfl
  refine pure_ (i := 51) (N := some 90) (v := ?_) (a' := ?_) #[true, true, true, true, true, true, true, true, true, true, true, true, true, true, true, true, true, true, true, true, true, true, true, true, true, true, true, true, true, true, true, true, true, true, true, true, true, true, true, true, true, true, true, true, true, true, true, true, true, true, true, true, false, false, false, false, false, false, false, false, false] rfl rfl (by kernel_rfl) (fun _ _ _ h => h) (Or.inl ⟨by rfl, ?_⟩) ?_ ?_
  rotate_left
  · intro w'
    go_simp
    with_reducible rfl
  rotate_left
  · simp only [Act.put, List.setIfInBounds_toArray, List.set_cons_zero, List.set_cons_succ, i64_w, i32_w]
    rfl
  refine pure_ (i := 52) (N := some 91) (v := ?_) (a' := ?_) #[true, true, true, true, true, true, true, true, true, true, true, true, true, true, true, true, true, true, true, true, true, true, true, true, true, true, true, true, true, true, true, true, true, true, true, true, true, true, true, true, true, true, true, true, true, true, true, true, true, true, true, true, true, false, false, false, false, false, false, false, false] rfl rfl (by kernel_rfl) (fun _ _ _ h => h) (Or.inl ⟨by rfl, ?_⟩) ?_ ?_
  rotate_left
  · intro w'
    go_simp
    with_reducible rfl
  rotate_left
  · simp only [Act.put, List.setIfInBounds_toArray, List.set_cons_zero, List.set_cons_succ, i64_w, i32_w]
    rfl
  refine take_ (i := 54) (N := some 93) (v := ?_) (a' := ?_) #[true, true, true, true, true, true, true, true, true, true, true, true, true, true, true, true, true, true, true, true, true, true, true, true, true, true, true, true, true, true, true, true, true, true, true, true, true, true, true, true, true, true, true, true, true, true, true, true, true, true, true, true, true, false, true, false, false, false, false, false, false] rfl rfl (by kernel_rfl) (fun _ _ _ h => h) (Or.inl ⟨by rfl, ?_⟩) hHeld ?_ ?_
  rotate_left
  · intro w' hSw
    obtain ⟨s0, s1, s2, s3, s4⟩ := hSw
    go_simp
    with_reducible rfl
  rotate_left
  · simp only [Act.put, List.setIfInBounds_toArray, List.set_cons_zero, List.set_cons_succ, i64_w, i32_w]
    rfl
  refine pure_ (i := 55) (N := some 94) (v := ?_) (a' := ?_) #[true, true, true, true, true, true, true, true, true, true, true, true, true, true, true, true, true, true, true, true, true, true, true, true, true, true, true, true, true, true, true, true, true, true, true, true, true, true, true, true, true, true, true, true, true, true, true, true, true, true, true, true, true, false, true, true, false, false, false, false, false] rfl rfl (by kernel_rfl) (fun _ _ _ h => h) (Or.inl ⟨by rfl, ?_⟩) ?_ ?_
  rotate_left
  · intro w'
    go_simp
    with_reducible rfl
  rotate_left
  · simp only [Act.put, List.setIfInBounds_toArray, List.set_cons_zero, List.set_cons_succ, i64_w, i32_w]
    rfl
  refine pure_ (i := 56) (N := some 95) (v := ?_) (a' := ?_) #[true, true, true, true, true, true, true, true, true, true, true, true, true, true, true, true, true, true, true, true, true, true, true, true, true, true, true, true, true, true, true, true, true, true, true, true, true, true, true, true, true, true, true, true, true, true, true, true, true, true, true, true, true, false, true, true, true, false, false, false, false] rfl rfl (by kernel_rfl) (fun _ _ _ h => h) (Or.inl ⟨by rfl, ?_⟩) ?_ ?_
  rotate_left
  · intro w'
    go_simp
    with_reducible rfl
  rotate_left
  · simp only [Act.put, List.setIfInBounds_toArray, List.set_cons_zero, List.set_cons_succ, i64_w, i32_w]
    rfl
  clear hHeld
  refine one_ (i := 53) (N := some 92) #[true, true, true, true, true, true, true, true, true, true, true, true, true, true, true, true, true, true, true, true, true, true, true, true, true, true, true, true, true, true, true, true, true, true, true, true, true, true, true, true, true, true, true, true, true, true, true, true, true, true, true, true, true, true, true, true, true, false, false, false, false] rfl rfl (by kernel_rfl) (by decide) (fun K hK => ?_)
  refine goes_ Tryd.func15 (by kernel_rfl) rfl #[.agg #[.int .i64 C.p, .int .i64 C.f, .slice A2 C.ws.length c2, .slice A3 C.ks.length c3, .slice A4 C.ac.length c4], .int .i64 o, .int .i64 now] (by rfl) rfl rfl (by (try simp only [List.map_toArray, List.map_cons, List.map_nil]); first | done | rfl | (simp only [List.length_drop, List.length_take]; rfl)) ?_
  (with_reducible refine (C6.out _ (below_step H5.out.2 HB.out)).mono ?_)
  rintro e w11 ⟨rfl, hb⟩
  refine ⟨_, rfl, ?_⟩
  have HBn := Aside0.mk (below_step HB.out hb)
  clear HB
  have HB := HBn
  clear HBn
  clear hb
  refine hK.out _ _ (TS.out _ HB.out) (fun hHeld => ?_)
  clear hK K
  refine norm_ (a' := ?_) ?_ ?_
  rotate_left
  · show Act.put _ (some 92) _ = _
    simp only [Act.put, List.setIfInBounds_toArray, List.set_cons_zero, List.set_cons_succ, i64_w, i32_w]
    rfl
  clear hHeld
  refine one_ (i := 57) (N := some 96) #[true, true, true, true, true, true, true, true, true, true, true, true, true, true, true, true, true, true, true, true, true, true, true, true, true, true, true, true, true, true, true, true, true, true, true, true, true, true, true, true, true, true, true, true, true, true, true, true, true, true, true, true, true, true, true, true, true, true, false, false, false] rfl rfl (by kernel_rfl) (by decide) (fun K hK => ?_)
  refine goes_ Tryd.func37 (by kernel_rfl) rfl #[.agg #[.int .i64 C.p, .int .i64 C.f, .slice A2 C.ws.length c2, .slice A3 C.ks.length c3, .slice A4 C.ac.length c4], .int .i64 o, .int .i64 now] (by rfl) rfl rfl (by (try simp only [List.map_toArray, List.map_cons, List.map_nil]); first | done | rfl | (simp only [List.length_drop, List.length_take]; rfl)) ?_
  (with_reducible refine (D6.out _ (below_step H5.out.2 HB.out)).mono ?_)
  rintro e w11 ⟨rfl, hb⟩
  refine ⟨_, rfl, ?_⟩
  have HBn := Aside0.mk (below_step HB.out hb)
  clear HB
  have HB := HBn
  clear HBn
  clear hb
  refine hK.out _ _ (TS.out _ HB.out) (fun hHeld => ?_)
  clear hK K
  refine norm_ (a' := ?_) ?_ ?_
  rotate_left
  · show Act.put _ (some 96) _ = _
    simp only [Act.put, List.setIfInBounds_toArray, List.set_cons_zero, List.set_cons_succ, i64_w, i32_w]
    rfl
  refine pure_ (i := 58) (N := some 97) (v := ?_) (a' := ?_) #[true, true, true, true, true, true, true, true, true, true, true, true, true, true, true, true, true, true, true, true, true, true, true, true, true, true, true, true, true, true, true, true, true, true, true, true, true, true, true, true, true, true, true, true, true, true, true, true, true, true, true, true, true, true, true, true, true, true, true, false, false] rfl rfl (by kernel_rfl) (fun _ _ _ h => h) (Or.inl ⟨by rfl, ?_⟩) ?_ ?_
  rotate_left
  · intro w'
    go_simp
    with_reducible rfl
  rotate_left
  · simp only [Act.put, List.setIfInBounds_toArray, List.set_cons_zero, List.set_cons_succ, i64_w, i32_w]
    rfl
  refine pure_ (i := 59) (N := some 98) (v := ?_) (a' := ?_) #[true, true, true, true, true, true, true, true, true, true, true, true, true, true, true, true, true, true, true, true, true, true, true, true, true, true, true, true, true, true, true, true, true, true, true, true, true, true, true, true, true, true, true, true, true, true, true, true, true, true, true, true, true, true, true, true, true, true, true, true, false] rfl rfl (by kernel_rfl) (fun _ _ _ h => h) (Or.inl ⟨by rfl, ?_⟩) ?_ ?_
  rotate_left
  · intro w'
    go_simp
    with_reducible rfl
  rotate_left
  · simp only [Act.put, List.setIfInBounds_toArray, List.set_cons_zero, List.set_cons_succ, i64_w, i32_w]
    rfl
  refine pure_ (i := 60) (N := some 6) (v := ?_) (a' := ?_) #[true, true, true, true, true, true, true, true, true, true, true, true, true, true, true, true, true, true, true, true, true, true, true, true, true, true, true, true, true, true, true, true, true, true, true, true, true, true, true, true, true, true, true, true, true, true, true, true, true, true, true, true, true, true, true, true, true, true, true, true, true] rfl rfl (by kernel_rfl) (fun _ _ _ h => h) (Or.inl ⟨by rfl, ?_⟩) ?_ ?_
  rotate_left
  · intro w'
    go_simp
    with_reducible rfl
  rotate_left
  · simp only [Act.put, List.setIfInBounds_toArray, List.set_cons_zero, List.set_cons_succ, i64_w, i32_w]
    rfl
  refine done_ (by kernel_rfl) ?_
  go_wp2
  go_ret
  exact ⟨rfl, below_step H5.out.2 HB.out⟩
set_option maxHeartbeats 16000000 in
set_option maxRecDepth 100000 in
theorem windowCalls_any (owner : Int) (now : Int) {C : Cfg} {A2 A3 A4 : Option Addr} {Ac2 Ac3 Ac4 : Nat} {w : World} (h : CX w C A2 Ac2 A3 Ac3 A4 Ac4)
    (l2 : C.ws.length ≤ maxLen) (l3 : C.ks.length ≤ maxLen) (l4 : C.ac.length ≤ maxLen) (hg : LG w) :
    Calls Tryd.prog 7 #[.agg #[.int .i64 C.p, .int .i64 C.f, .slice A2 C.ws.length Ac2, .slice A3 C.ks.length Ac3, .slice A4 C.ac.length Ac4], .int .i64 owner, .int .i64 now] w fun e w' => e = .returned (.bool true) ∧ Below w.heap.size w w' := by
  have FA := Aside0.mk (fun w1 (hb : Below w.heap.size w w1) => few_any (h.below hb) l2 l3 l4)
  have HXD := Aside0.mk h.few
  have HG := Aside0.mk hg
  have hD2 : (fewC C).ws.length ≤ 10 ∧ (fewC C).ks.length ≤ 10 ∧ (fewC C).ac.length ≤ 10 := by unfold fewC; simp only [List.length_take]; omega
  have B1 := Aside0.mk (And.intro (blk_new w (.cells #[.int .i64 C.p, .int .i64 C.f, .slice A2 C.ws.length Ac2, .slice A3 C.ks.length Ac3, .slice A4 C.ac.length Ac4] 26)) (below_alloc (Below.refl w.heap.size w) (.cells #[.int .i64 C.p, .int .i64 C.f, .slice A2 C.ws.length Ac2, .slice A3 C.ks.length Ac3, .slice A4 C.ac.length Ac4] 26)))
  clear h l2 l3 l4 hg
  generalize fewC C = D at FA HXD hD2
  go_enter Tryd.func7, Tryd.ntmps7
  go_upto_region 3 with (first | (go_at_call 10; refine (lives_any (HG.out.below B1.out.2)).mono ?_; rintro e w2 ⟨rfl, hb⟩; have B2_ := Aside0.mk (And.intro (blk_below B1.out.1 hb) (below_step B1.out.2 hb)); clear hb))
  have s0 := (blk_cell B2_.out.1 0).trans (show _ = some (.int .i64 C.p) from rfl)
  have s1 := (blk_cell B2_.out.1 1).trans (show _ = some (.int .i64 C.f) from rfl)
  have s2 := (blk_cell B2_.out.1 2).trans (show _ = some (.slice A2 C.ws.length Ac2) from rfl)
  have s3 := (blk_cell B2_.out.1 3).trans (show _ = some (.slice A3 C.ks.length Ac3) from rfl)
  have s4 := (blk_cell B2_.out.1 4).trans (show _ = some (.slice A4 C.ac.length Ac4) from rfl)
  clear B1
  go_upto_region 4 with (first | (go_at_call 12; refine (FA.out _ B2_.out.2).mono ?_; rintro e w3 ⟨rfl, hb⟩; have B3 := Aside0.mk (And.intro (blk_below B2_.out.1 hb) (below_step B2_.out.2 hb)); clear hb s0 s1 s2 s3 s4; have s0 := (blk_cell B3.out.1 0).trans (show _ = some (.int .i64 C.p) from rfl); have s1 := (blk_cell B3.out.1 1).trans (show _ = some (.int .i64 C.f) from rfl); have s2 := (blk_cell B3.out.1 2).trans (show _ = some (.slice A2 C.ws.length Ac2) from rfl); have s3 := (blk_cell B3.out.1 3).trans (show _ = some (.slice A3 C.ks.length Ac3) from rfl); have s4 := (blk_cell B3.out.1 4).trans (show _ = some (.slice A4 C.ac.length Ac4) from rfl); have sf0 := blk_frozen B3.out.1 0; have sf1 := blk_frozen B3.out.1 1; have sf2 := blk_frozen B3.out.1 2; have sf3 := blk_frozen B3.out.1 3; have sf4 := blk_frozen B3.out.1 4))
  clear s0 s1 s2 s3 s4 sf0 sf1 sf2 sf3 sf4 B2_ FA
  have B4 : (((((w3.setCell ⟨w.heap.size, 0, none⟩ (.int .i64 D.p)).setCell ⟨w.heap.size, 1, none⟩ (.int .i64 D.f)).setCell ⟨w.heap.size, 2, none⟩ (.slice A2 D.ws.length Ac2)).setCell ⟨w.heap.size, 3, none⟩ (.slice A3 D.ks.length Ac3)).setCell ⟨w.heap.size, 4, none⟩ (.slice A4 D.ac.length Ac4)).heap[w.heap.size]? = some (.cells #[.int .i64 D.p, .int .i64 D.f, .slice A2 D.ws.length Ac2, .slice A3 D.ks.length Ac3, .slice A4 D.ac.length Ac4] 26 (0, 0)) ∧ Below w.heap.size w (((((w3.setCell ⟨w.heap.size, 0, none⟩ (.int .i64 D.p)).setCell ⟨w.heap.size, 1, none⟩ (.int .i64 D.f)).setCell ⟨w.heap.size, 2, none⟩ (.slice A2 D.ws.length Ac2)).setCell ⟨w.heap.size, 3, none⟩ (.slice A3 D.ks.length Ac3)).setCell ⟨w.heap.size, 4, none⟩ (.slice A4 D.ac.length Ac4)) := ⟨(blk_put (blk_put (blk_put (blk_put (blk_put B3.out.1 0 (.int .i64 D.p) rfl) 1 (.int .i64 D.f) rfl) 2 (.slice A2 D.ws.length Ac2) rfl) 3 (.slice A3 D.ks.length Ac3) rfl) 4 (.slice A4 D.ac.length Ac4) rfl), (below_set (below_set (below_set (below_set (below_set B3.out.2 (Nat.le_refl _)) (Nat.le_refl _)) (Nat.le_refl _)) (Nat.le_refl _)) (Nat.le_refl _))⟩
  clear B3
  revert B4
  generalize (((((w3.setCell ⟨w.heap.size, 0, none⟩ (.int .i64 D.p)).setCell ⟨w.heap.size, 1, none⟩ (.int .i64 D.f)).setCell ⟨w.heap.size, 2, none⟩ (.slice A2 D.ws.length Ac2)).setCell ⟨w.heap.size, 3, none⟩ (.slice A3 D.ks.length Ac3)).setCell ⟨w.heap.size, 4, none⟩ (.slice A4 D.ac.length Ac4)) = w4
  intro B4
  have B4A := Aside0.mk B4
  clear B4
  have s0 := (blk_cell B4A.out.1 0).trans (show _ = some (.int .i64 D.p) from rfl)
  have s1 := (blk_cell B4A.out.1 1).trans (show _ = some (.int .i64 D.f) from rfl)
  have s2 := (blk_cell B4A.out.1 2).trans (show _ = some (.slice A2 D.ws.length Ac2) from rfl)
  have s3 := (blk_cell B4A.out.1 3).trans (show _ = some (.slice A3 D.ks.length Ac3) from rfl)
  have s4 := (blk_cell B4A.out.1 4).trans (show _ = some (.slice A4 D.ac.length Ac4) from rfl)
  go_upto_region 5 with (first | (go_at_call 11; refine (good_any (HXD.out.below B4A.out.2)).mono ?_; rintro e w5 ⟨G, X2, Xc2, X3, Xc3, X4, Xc4, hG, rfl, hx, hb⟩; have HX := Aside0.mk hx; have B5 := Aside0.mk (And.intro (blk_below B4A.out.1 hb) (below_step B4A.out.2 hb)); have HGG := Aside0.mk hG; clear hb hx hG))
  clear s0 s1 s2 s3 s4 B4A
  have H6 : (w5.alloc (.cells #[.int .i64 G.p, .int .i64 G.f, .slice X2 G.ws.length Xc2, .slice X3 G.ks.length Xc3, .slice X4 G.ac.length Xc4] 26)).heap[w5.heap.size]? = some (.cells #[.int .i64 G.p, .int .i64 G.f, .slice X2 G.ws.length Xc2, .slice X3 G.ks.length Xc3, .slice X4 G.ac.length Xc4] 26 (0, 0)) ∧ (w5.alloc (.cells #[.int .i64 G.p, .int .i64 G.f, .slice X2 G.ws.length Xc2, .slice X3 G.ks.length Xc3, .slice X4 G.ac.length Xc4] 26)).heap[w.heap.size]? = some (.cells #[.int .i64 D.p, .int .i64 D.f, .slice A2 D.ws.length Ac2, .slice A3 D.ks.length Ac3, .slice A4 D.ac.length Ac4] 26 (0, 0)) ∧ Below w5.heap.size w5 (w5.alloc (.cells #[.int .i64 G.p, .int .i64 G.f, .slice X2 G.ws.length Xc2, .slice X3 G.ks.length Xc3, .slice X4 G.ac.length Xc4] 26)) ∧ Below w.heap.size w (w5.alloc (.cells #[.int .i64 G.p, .int .i64 G.f, .slice X2 G.ws.length Xc2, .slice X3 G.ks.length Xc3, .slice X4 G.ac.length Xc4] 26)) := ⟨blk_new _ _, blk_alloc B5.out.1 _, below_alloc (Below.refl _ _) _, below_alloc B5.out.2 _⟩
  have HG5 := Aside0.mk (HG.out.below B5.out.2)
  revert H6
  generalize (w5.alloc (.cells #[.int .i64 G.p, .int .i64 G.f, .slice X2 G.ws.length Xc2, .slice X3 G.ks.length Xc3, .slice X4 G.ac.length Xc4] 26)) = W6
  intro H6
  have H6A := Aside0.mk H6
  clear H6
  have k1 : G.ks.length ≤ 1000 := by have := HGG.out.k; omega
  have k2 : G.ac.length ≤ 1000 := by have := HGG.out.a; have := HGG.out.p; omega
  have k3 : G.ws.length ≤ 1000 := by have := HGG.out.w; omega
  have SD : Aside0 (∀ W : World, Below w.heap.size w W → Calls Tryd.prog 18 #[.agg #[.int .i64 D.p, .int .i64 D.f, .slice A2 D.ws.length Ac2, .slice A3 D.ks.length Ac3, .slice A4 D.ac.length Ac4], .int .i64 owner, .int .i64 now] W fun e w' => e = .returned (.bool true) ∧ Below W.heap.size W w') := ⟨fun W hb => same_any (HXD.out.below hb) (HG.out.below hb) (by omega) (by omega) (by omega) owner now⟩
  have SG : Aside0 (∀ (o : Int) (W : World), Below w5.heap.size w5 W → Calls Tryd.prog 18 #[.agg #[.int .i64 G.p, .int .i64 G.f, .slice X2 G.ws.length Xc2, .slice X3 G.ks.length Xc3, .slice X4 G.ac.length Xc4], .int .i64 o, .int .i64 now] W fun e w' => e = .returned (.bool true) ∧ Below W.heap.size W w') := ⟨fun o W hb => same_any (HX.out.below hb) (HG5.out.below hb) k1 k2 k3 o now⟩
  clear k1 k2 k3 hD2 HXD HG HX HG5 HGG B5
  have g0 := (blk_cell H6A.out.1 0).trans (show _ = some (.int .i64 G.p) from rfl)
  have g1 := (blk_cell H6A.out.1 1).trans (show _ = some (.int .i64 G.f) from rfl)
  have g2 := (blk_cell H6A.out.1 2).trans (show _ = some (.slice X2 G.ws.length Xc2) from rfl)
  have g3 := (blk_cell H6A.out.1 3).trans (show _ = some (.slice X3 G.ks.length Xc3) from rfl)
  have g4 := (blk_cell H6A.out.1 4).trans (show _ = some (.slice X4 G.ac.length Xc4) from rfl)
  have s0 := (blk_cell H6A.out.2.1 0).trans (show _ = some (.int .i64 D.p) from rfl)
  have s1 := (blk_cell H6A.out.2.1 1).trans (show _ = some (.int .i64 D.f) from rfl)
  have s2 := (blk_cell H6A.out.2.1 2).trans (show _ = some (.slice A2 D.ws.length Ac2) from rfl)
  have s3 := (blk_cell H6A.out.2.1 3).trans (show _ = some (.slice A3 D.ks.length Ac3) from rfl)
  have s4 := (blk_cell H6A.out.2.1 4).trans (show _ = some (.slice A4 D.ac.length Ac4) from rfl)
  go_wp2_with (first | (go_at_call 18; (with_reducible refine (SD.out _ H6A.out.2.2.2).mono ?_); rintro e w7 ⟨rfl, hb⟩; have H7 := Aside0.mk (And.intro (blk_below H6A.out.1 hb) (And.intro (blk_below H6A.out.2.1 hb) (And.intro (below_step H6A.out.2.2.1 hb) (below_step H6A.out.2.2.2 hb)))); clear hb g0 g1 g2 g3 g4 s0 s1 s2 s3 s4; have g0 := (blk_cell H7.out.1 0).trans (show _ = some (.int .i64 G.p) from rfl); have g1 := (blk_cell H7.out.1 1).trans (show _ = some (.int .i64 G.f) from rfl); have g2 := (blk_cell H7.out.1 2).trans (show _ = some (.slice X2 G.ws.length Xc2) from rfl); have g3 := (blk_cell H7.out.1 3).trans (show _ = some (.slice X3 G.ks.length Xc3) from rfl); have g4 := (blk_cell H7.out.1 4).trans (show _ = some (.slice X4 G.ac.length Xc4) from rfl); have s0 := (blk_cell H7.out.2.1 0).trans (show _ = some (.int .i64 D.p) from rfl); have s1 := (blk_cell H7.out.2.1 1).trans (show _ = some (.int .i64 D.f) from rfl); have s2 := (blk_cell H7.out.2.1 2).trans (show _ = some (.slice A2 D.ws.length Ac2) from rfl); have s3 := (blk_cell H7.out.2.1 3).trans (show _ = some (.slice A3 D.ks.length Ac3) from rfl); have s4 := (blk_cell H7.out.2.1 4).trans (show _ = some (.slice A4 D.ac.length Ac4) from rfl)) | (go_at_call 18; (with_reducible refine (SG.out owner _ H7.out.2.2.1).mono ?_); rintro e w8 ⟨rfl, hb⟩; have H8 := Aside0.mk (And.intro (blk_below H7.out.1 hb) (And.intro (blk_below H7.out.2.1 hb) (And.intro (below_step H7.out.2.2.1 hb) (below_step H7.out.2.2.2 hb)))); clear hb g0 g1 g2 g3 g4 s0 s1 s2 s3 s4; have g0 := (blk_cell H8.out.1 0).trans (show _ = some (.int .i64 G.p) from rfl); have g1 := (blk_cell H8.out.1 1).trans (show _ = some (.int .i64 G.f) from rfl); have g2 := (blk_cell H8.out.1 2).trans (show _ = some (.slice X2 G.ws.length Xc2) from rfl); have g3 := (blk_cell H8.out.1 3).trans (show _ = some (.slice X3 G.ks.length Xc3) from rfl); have g4 := (blk_cell H8.out.1 4).trans (show _ = some (.slice X4 G.ac.length Xc4) from rfl); have s0 := (blk_cell H8.out.2.1 0).trans (show _ = some (.int .i64 D.p) from rfl); have s1 := (blk_cell H8.out.2.1 1).trans (show _ = some (.int .i64 D.f) from rfl); have s2 := (blk_cell H8.out.2.1 2).trans (show _ = some (.slice A2 D.ws.length Ac2) from rfl); have s3 := (blk_cell H8.out.2.1 3).trans (show _ = some (.slice A3 D.ks.length Ac3) from rfl); have s4 := (blk_cell H8.out.2.1 4).trans (show _ = some (.slice A4 D.ac.length Ac4) from rfl)) | (go_at_call 18; (with_reducible refine (SG.out (-1) _ H8.out.2.2.1).mono ?_); rintro e w9 ⟨rfl, hb⟩; have H9 := Aside0.mk (And.intro (blk_below H8.out.1 hb) (And.intro (blk_below H8.out.2.1 hb) (And.intro (below_step H8.out.2.2.1 hb) (below_step H8.out.2.2.2 hb)))); clear hb g0 g1 g2 g3 g4 s0 s1 s2 s3 s4; have g0 := (blk_cell H9.out.1 0).trans (show _ = some (.int .i64 G.p) from rfl); have g1 := (blk_cell H9.out.1 1).trans (show _ = some (.int .i64 G.f) from rfl); have g2 := (blk_cell H9.out.1 2).trans (show _ = some (.slice X2 G.ws.length Xc2) from rfl); have g3 := (blk_cell H9.out.1 3).trans (show _ = some (.slice X3 G.ks.length Xc3) from rfl); have g4 := (blk_cell H9.out.1 4).trans (show _ = some (.slice X4 G.ac.length Xc4) from rfl); have s0 := (blk_cell H9.out.2.1 0).trans (show _ = some (.int .i64 D.p) from rfl); have s1 := (blk_cell H9.out.2.1 1).trans (show _ = some (.int .i64 D.f) from rfl); have s2 := (blk_cell H9.out.2.1 2).trans (show _ = some (.slice A2 D.ws.length Ac2) from rfl); have s3 := (blk_cell H9.out.2.1 3).trans (show _ = some (.slice A3 D.ks.length Ac3) from rfl); have s4 := (blk_cell H9.out.2.1 4).trans (show _ = some (.slice A4 D.ac.length Ac4) from rfl)) | (go_at_call 18; (with_reducible refine (SG.out 0 _ H9.out.2.2.1).mono ?_); rintro e w10 ⟨rfl, hb⟩; have H10 := Aside0.mk (And.intro (blk_below H9.out.1 hb) (And.intro (blk_below H9.out.2.1 hb) (And.intro (below_step H9.out.2.2.1 hb) (below_step H9.out.2.2.2 hb)))); clear hb g0 g1 g2 g3 g4 s0 s1 s2 s3 s4; have g0 := (blk_cell H10.out.1 0).trans (show _ = some (.int .i64 G.p) from rfl); have g1 := (blk_cell H10.out.1 1).trans (show _ = some (.int .i64 G.f) from rfl); have g2 := (blk_cell H10.out.1 2).trans (show _ = some (.slice X2 G.ws.length Xc2) from rfl); have g3 := (blk_cell H10.out.1 3).trans (show _ = some (.slice X3 G.ks.length Xc3) from rfl); have g4 := (blk_cell H10.out.1 4).trans (show _ = some (.slice X4 G.ac.length Xc4) from rfl); have s0 := (blk_cell H10.out.2.1 0).trans (show _ = some (.int .i64 D.p) from rfl); have s1 := (blk_cell H10.out.2.1 1).trans (show _ = some (.int .i64 D.f) from rfl); have s2 := (blk_cell H10.out.2.1 2).trans (show _ = some (.slice A2 D.ws.length Ac2) from rfl); have s3 := (blk_cell H10.out.2.1 3).trans (show _ = some (.slice A3 D.ks.length Ac3) from rfl); have s4 := (blk_cell H10.out.2.1 4).trans (show _ = some (.slice A4 D.ac.length Ac4) from rfl)))
  go_ret
  exact ⟨rfl, H10.out.2.2.2⟩
end Go.Proofs.YtmmkbgilcggkkaaDoor.Wn
