/- Layer 4 (config): Clone. -/
import Derived.Test.YtehcgojcmcahnaaDoorCfF
set_option linter.unusedVariables false
set_option linter.unusedSimpArgs false
namespace Go.Proofs.YtehcgojcmcahnaaDoor.Cf
open Go.RowKit Go.Proofs.YtehcgojcmcahnaaDoorW.PrintWords Go.Proofs.YtehcgojcmcahnaaDoorW.PrintLast Go.Proofs.YtehcgojcmcahnaaDoorW.PrintMore Go.Proofs.YtehcgojcmcahnaaDoor.Cz Go.Proofs.YtehcgojcmcahnaaDoor.PConfigSame
attribute [local go_sem] max2_int min2_int max_two min_two max_three min_three max_four min_four Tryd.underlying26
/-- A block of another type turned. -/
theorem OK.kept33 {w0 W W' : World} {v : Value} {xs : List S33} (h : OK k33 33 w0 W v xs) {b T : Nat} {cs : Array Value} (hb : W.heap[b]? = some (.cells cs T (0, 0))) (hle : w0.heap.size ≤ b) (hT : T ≠ 33) (hg : W.grownBy W' (some b)) : OK k33 33 w0 W' v xs := by
  obtain ⟨inner, ho⟩ := Kd.R_own h.r
  refine ⟨Kd.R_mono (ok := fun k => w0.heap.size ≤ k ∧ some k ≠ some b) (Kd.R_grown (row := some b) (Kd.R_mono (Kd.R_tight rfl h.r) (fun k hk => ?_)) hg (fun k hk => hk.2)) (fun k hk => hk.1), below_grown h.bel hg (fun k hk => by cases hk; exact hle)⟩
  refine ⟨h.r.1 k hk.symm, fun e => ?_⟩
  obtain ⟨cells, hc⟩ := own_typed ho k hk.symm
  cases e
  rw [hb] at hc
  injection hc with hc
  injection hc with _ hc
  exact hT hc
theorem OK.kept35 {w0 W W' : World} {v : Value} {xs : List S35} (h : OK k35 35 w0 W v xs) {b T : Nat} {cs : Array Value} (hb : W.heap[b]? = some (.cells cs T (0, 0))) (hle : w0.heap.size ≤ b) (hT : T ≠ 35) (hg : W.grownBy W' (some b)) : OK k35 35 w0 W' v xs := by
  obtain ⟨inner, ho⟩ := Kd.R_own h.r
  refine ⟨Kd.R_mono (ok := fun k => w0.heap.size ≤ k ∧ some k ≠ some b) (Kd.R_grown (row := some b) (Kd.R_mono (Kd.R_tight rfl h.r) (fun k hk => ?_)) hg (fun k hk => hk.2)) (fun k hk => hk.1), below_grown h.bel hg (fun k hk => by cases hk; exact hle)⟩
  refine ⟨h.r.1 k hk.symm, fun e => ?_⟩
  obtain ⟨cells, hc⟩ := own_typed ho k hk.symm
  cases e
  rw [hb] at hc
  injection hc with hc
  injection hc with _ hc
  exact hT hc
theorem OK.kept3 {w0 W W' : World} {v : Value} {xs : List Int} (h : OK (Kd.int .i64) 3 w0 W v xs) {b T : Nat} {cs : Array Value} (hb : W.heap[b]? = some (.cells cs T (0, 0))) (hle : w0.heap.size ≤ b) (hT : T ≠ 3) (hg : W.grownBy W' (some b)) : OK (Kd.int .i64) 3 w0 W' v xs := by
  obtain ⟨inner, ho⟩ := Kd.R_own h.r
  refine ⟨Kd.R_mono (ok := fun k => w0.heap.size ≤ k ∧ some k ≠ some b) (Kd.R_grown (row := some b) (Kd.R_mono (Kd.R_tight rfl h.r) (fun k hk => ?_)) hg (fun k hk => hk.2)) (fun k hk => hk.1), below_grown h.bel hg (fun k hk => by cases hk; exact hle)⟩
  refine ⟨h.r.1 k hk.symm, fun e => ?_⟩
  obtain ⟨cells, hc⟩ := own_typed ho k hk.symm
  cases e
  rw [hb] at hc
  injection hc with hc
  injection hc with _ hc
  exact hT hc
/-- The three rows of a clone. -/
structure CO (w0 W : World) (ws : List S33) (ks : List S35) (ac : List Int) (v2 v3 v4 : Value) : Prop where
  o2 : OK k33 33 w0 W v2 ws
  o3 : OK k35 35 w0 W v3 ks
  o4 : OK (Kd.int .i64) 3 w0 W v4 ac
theorem CO.kept {w0 W W' : World} {ws : List S33} {ks : List S35} {ac : List Int} {v2 v3 v4 : Value} (h : CO w0 W ws ks ac v2 v3 v4) {b : Nat} {cs : Array Value} (hb : W.heap[b]? = some (.cells cs 26 (0, 0))) (hle : w0.heap.size ≤ b) (hg : W.grownBy W' (some b)) : CO w0 W' ws ks ac v2 v3 v4 :=
  ⟨h.o2.kept33 hb hle (by decide) hg, h.o3.kept35 hb hle (by decide) hg, h.o4.kept3 hb hle (by decide) hg⟩
theorem CO.far {w0 W W' : World} {ws : List S33} {ks : List S35} {ac : List Int} {v2 v3 v4 : Value} (h : CO w0 W ws ks ac v2 v3 v4) (hb : Below W.heap.size W W') : CO w0 W' ws ks ac v2 v3 v4 := ⟨h.o2.far hb, h.o3.far hb, h.o4.far hb⟩
theorem fin_heap {W : World} {g q : Nat} {a0 a1 a2 a3 a4 b0 b1 b2 b3 b4 v2 v3 v4 u0 u1 u2 u3 u4 : Value} (hs : W.heap[g]? = some (.cells #[a0, a1, a2, a3, a4] 26 (0, 0))) (hr : W.heap[q]? = some (.cells #[b0, b1, b2, b3, b4] 26 (0, 0))) (hne : q ≠ g) :
    ((((((((W.setCell ⟨g, 2, none⟩ v2).setCell ⟨g, 3, none⟩ v3).setCell ⟨g, 4, none⟩ v4).setCell ⟨q, 0, none⟩ u0).setCell ⟨q, 1, none⟩ u1).setCell ⟨q, 2, none⟩ u2).setCell ⟨q, 3, none⟩ u3).setCell ⟨q, 4, none⟩ u4).heap[q]? = some (.cells #[u0, u1, u2, u3, u4] 26 (0, 0)) :=
  blk_put (blk_put (blk_put (blk_put (blk_put (blk_far (p := ⟨g, 4, none⟩) (blk_far (p := ⟨g, 3, none⟩) (blk_far (p := ⟨g, 2, none⟩) hr hne v2) hne v3) hne v4) 0 _ rfl) 1 _ rfl) 2 _ rfl) 3 _ rfl) 4 _ rfl
theorem fin_co {w0 W : World} {ws : List S33} {ks : List S35} {ac : List Int} {z2 z3 z4 : Value} {g q : Nat} {a0 a1 a2 a3 a4 b0 b1 b2 b3 b4 v2 v3 v4 u0 u1 u2 u3 u4 : Value} (hs : W.heap[g]? = some (.cells #[a0, a1, a2, a3, a4] 26 (0, 0))) (hr : W.heap[q]? = some (.cells #[b0, b1, b2, b3, b4] 26 (0, 0))) (hne : q ≠ g) (hg : w0.heap.size ≤ g) (hq : w0.heap.size ≤ q) (h : CO w0 W ws ks ac z2 z3 z4) :
    CO w0 ((((((((W.setCell ⟨g, 2, none⟩ v2).setCell ⟨g, 3, none⟩ v3).setCell ⟨g, 4, none⟩ v4).setCell ⟨q, 0, none⟩ u0).setCell ⟨q, 1, none⟩ u1).setCell ⟨q, 2, none⟩ u2).setCell ⟨q, 3, none⟩ u3).setCell ⟨q, 4, none⟩ u4) ws ks ac z2 z3 z4 := by
  have s2 := blk_put hs 2 v2 rfl
  have s3 := blk_put s2 3 v3 rfl
  have r4 := blk_far (p := ⟨g, 4, none⟩) (blk_far (p := ⟨g, 3, none⟩) (blk_far (p := ⟨g, 2, none⟩) hr hne v2) hne v3) hne v4
  have r5 := blk_put r4 0 u0 rfl
  have r6 := blk_put r5 1 u1 rfl
  have r7 := blk_put r6 2 u2 rfl
  have r8 := blk_put r7 3 u3 rfl
  exact (((((((h.kept hs hg (grown_set _ g 2 _)).kept s2 hg (grown_set _ g 3 _)).kept s3 hg (grown_set _ g 4 _)).kept r4 hq (grown_set _ q 0 _)).kept r5 hq (grown_set _ q 1 _)).kept r6 hq (grown_set _ q 2 _)).kept r7 hq (grown_set _ q 3 _)).kept r8 hq (grown_set _ q 4 _)
set_option maxHeartbeats 8000000 in
set_option maxRecDepth 100000 in
theorem clone_any {C : Cfg} {A2 A3 A4 : Option Addr} {c2 c3 c4 : Nat} {w : World} (h : CX w C A2 c2 A3 c3 A4 c4) (l2 : C.ws.length ≤ 1000) (l3 : C.ks.length ≤ 1000) (l4 : C.ac.length ≤ 1000) :
    Calls Tryd.prog 9 #[.agg #[.int .i64 C.p, .int .i64 C.f, .slice A2 C.ws.length c2, .slice A3 C.ks.length c3, .slice A4 C.ac.length c4]] w fun e w' => ∃ B2 d2 B3 d3 B4 d4, e = .returned (.agg #[.int .i64 C.p, .int .i64 C.f, .slice B2 C.ws.length d2, .slice B3 C.ks.length d3, .slice B4 C.ac.length d4]) ∧ CO w w' C.ws C.ks C.ac (.slice B2 C.ws.length d2) (.slice B3 C.ks.length d3) (.slice B4 C.ac.length d4) := by
  obtain ⟨p, f, ws, ks, ac⟩ := C
  have HXw := Aside0.mk (show Kd.C k33 w A2 ws.length ws from h.w)
  have HXk := Aside0.mk (show Kd.C k35 w A3 ks.length ks from h.k)
  have HXa := Aside0.mk (show Kd.C (Kd.int .i64) w A4 ac.length ac from h.a)
  simp only [] at l2 l3 l4 ⊢
  have L2 := Aside0.mk l2
  have L3 := Aside0.mk l3
  have L4 := Aside0.mk l4
  clear h l2 l3 l4
  have T := Aside0.mk Tryd.underlying26
  have hS := blk_drew (blk_alloc (blk_new w (.cells #[.int .i64 p, .int .i64 f, .slice A2 ws.length c2, .slice A3 ks.length c3, .slice A4 ac.length c4] 26)) (.cells #[.int .i64 0, .int .i64 0, .slice none 0 0, .slice none 0 0, .slice none 0 0] 26))
  have HS := Aside0.mk hS
  have HR := Aside0.mk (blk_drew (show ((w.alloc (.cells #[.int .i64 p, .int .i64 f, .slice A2 ws.length c2, .slice A3 ks.length c3, .slice A4 ac.length c4] 26)).alloc (.cells #[.int .i64 0, .int .i64 0, .slice none 0 0, .slice none 0 0, .slice none 0 0] 26)).heap[w.heap.size + 1]? = some (.cells #[.int .i64 0, .int .i64 0, .slice none 0 0, .slice none 0 0, .slice none 0 0] 26 (0, 0)) by simpa using heap_alloc_new (w.alloc (.cells #[.int .i64 p, .int .i64 f, .slice A2 ws.length c2, .slice A3 ks.length c3, .slice A4 ac.length c4] 26)) (.cells #[.int .i64 0, .int .i64 0, .slice none 0 0, .slice none 0 0, .slice none 0 0] 26)))
  have HB := Aside0.mk (below_drew (below_alloc (below_alloc (Below.refl w.heap.size w) (.cells #[.int .i64 p, .int .i64 f, .slice A2 ws.length c2, .slice A3 ks.length c3, .slice A4 ac.length c4] 26)) (.cells #[.int .i64 0, .int .i64 0, .slice none 0 0, .slice none 0 0, .slice none 0 0] 26)))
  clear hS
  go_enter Tryd.func9, Tryd.ntmps9
  go_upto_region 1 with (first | fail)
  refine wp_region_any (by kernel_rfl) ?_
  change wpAny _ _ _ _ _ _ _ (World.drew _)
  refine OrdU.wpAny_of_U (S := fun w' => w'.heap[w.heap.size]? = some (.cells #[.int .i64 p, .int .i64 f, .slice A2 ws.length c2, .slice A3 ks.length c3, .slice A4 ac.length c4] 26 (0, 0))) (U := fun j => j == 10 || j == 12 || j == 14) _ _ _ _ ?_
  refine OrdU.wpAnyU_takeW (i := 0) (v := ?v0) rfl (by kernel_rfl) (by kernel_rfl) (by kernel_rfl) (fun _ _ _ h => h) (Or.inl ⟨by rfl, ?hy0⟩) ?rest0
  case hy0 =>
    intro w1 hSw
    try dsimp only at hSw
    go_simp
    try with_reducible rfl
  try simp only [Act.put, List.setIfInBounds_toArray, List.set_cons_zero, List.set_cons_succ]
  refine OrdU.wpAnyU_take (i := 1) (v := ?v1) rfl (by kernel_rfl) (by kernel_rfl) (by kernel_rfl) (by kernel_rfl) (fun _ _ _ h => h) (Or.inl ⟨by rfl, ?hy1⟩) HS.out ?rest1
  case hy1 =>
    intro w1 hSw
    try dsimp only at hSw
    have z : w1.cell? ⟨w.heap.size, 2, none⟩ = some (.slice A2 ws.length c2) := (blk_cell hSw 2).trans rfl
    go_simp
    try with_reducible rfl
  try simp only [Act.put, List.setIfInBounds_toArray, List.set_cons_zero, List.set_cons_succ]
  refine OrdU.wpAnyU_takeW (i := 3) (v := ?v3) rfl (by kernel_rfl) (by kernel_rfl) (by kernel_rfl) (fun _ _ _ h => h) (Or.inl ⟨by rfl, ?hy3⟩) ?rest3
  case hy3 =>
    intro w1 hSw
    try dsimp only at hSw
    go_simp
    try with_reducible rfl
  try simp only [Act.put, List.setIfInBounds_toArray, List.set_cons_zero, List.set_cons_succ]
  refine OrdU.wpAnyU_take (i := 4) (v := ?v4) rfl (by kernel_rfl) (by kernel_rfl) (by kernel_rfl) (by kernel_rfl) (fun _ _ _ h => h) (Or.inl ⟨by rfl, ?hy4⟩) HS.out ?rest4
  case hy4 =>
    intro w1 hSw
    try dsimp only at hSw
    have z : w1.cell? ⟨w.heap.size, 3, none⟩ = some (.slice A3 ks.length c3) := (blk_cell hSw 3).trans rfl
    go_simp
    try with_reducible rfl
  try simp only [Act.put, List.setIfInBounds_toArray, List.set_cons_zero, List.set_cons_succ]
  refine OrdU.wpAnyU_takeW (i := 6) (v := ?v6) rfl (by kernel_rfl) (by kernel_rfl) (by kernel_rfl) (fun _ _ _ h => h) (Or.inl ⟨by rfl, ?hy6⟩) ?rest6
  case hy6 =>
    intro w1 hSw
    try dsimp only at hSw
    go_simp
    try with_reducible rfl
  try simp only [Act.put, List.setIfInBounds_toArray, List.set_cons_zero, List.set_cons_succ]
  refine OrdU.wpAnyU_take (i := 7) (v := ?v7) rfl (by kernel_rfl) (by kernel_rfl) (by kernel_rfl) (by kernel_rfl) (fun _ _ _ h => h) (Or.inl ⟨by rfl, ?hy7⟩) HS.out ?rest7
  case hy7 =>
    intro w1 hSw
    try dsimp only at hSw
    have z : w1.cell? ⟨w.heap.size, 4, none⟩ = some (.slice A4 ac.length c4) := (blk_cell hSw 4).trans rfl
    go_simp
    try with_reducible rfl
  try simp only [Act.put, List.setIfInBounds_toArray, List.set_cons_zero, List.set_cons_succ]
  refine OrdU.wpAnyU_one (i := 2) (by kernel_rfl) rfl (fun K' hK => ?_)
  go_simp
  go_wp2_with (first | (go_at_call 20; refine (clone33_any (Kd.C_below HXw.out HB.out) L2.out).mono ?_; rintro e w2 ⟨v, rfl, ho⟩; obtain ⟨B2, d2, rfl, _⟩ := ho.reads; have O2 := Aside0.mk (ho.less HB.out); replace HS := Aside0.mk (blk_below HS.out ho.bel); replace HR := Aside0.mk (blk_below HR.out ho.bel); replace HB := Aside0.mk (below_step HB.out ho.bel); clear ho))
  refine hK.out _ _ (fun _ _ => HS.out) ?_
  clear hK
  try simp only [Act.put, List.setIfInBounds_toArray, List.set_cons_zero, List.set_cons_succ]
  refine OrdU.wpAnyU_takeW (i := 9) (v := ?v9) rfl (by kernel_rfl) (by kernel_rfl) (by kernel_rfl) (fun _ _ _ h => h) (Or.inl ⟨by rfl, ?hy9⟩) ?rest9
  case hy9 =>
    intro w1 hSw
    try dsimp only at hSw
    go_simp
    try with_reducible rfl
  try simp only [Act.put, List.setIfInBounds_toArray, List.set_cons_zero, List.set_cons_succ]
  refine OrdU.wpAnyU_one (i := 5) (by kernel_rfl) rfl (fun K' hK => ?_)
  go_simp
  go_wp2_with (first | (go_at_call 21; refine (clone35_any (Kd.C_below HXk.out HB.out) L3.out).mono ?_; rintro e w3 ⟨v, rfl, ho⟩; obtain ⟨B3, d3, rfl, _⟩ := ho.reads; replace O2 := Aside0.mk (O2.out.far ho.bel); have O3 := Aside0.mk (ho.less HB.out); replace HS := Aside0.mk (blk_below HS.out ho.bel); replace HR := Aside0.mk (blk_below HR.out ho.bel); replace HB := Aside0.mk (below_step HB.out ho.bel); clear ho))
  refine hK.out _ _ (fun _ _ => HS.out) ?_
  clear hK
  try simp only [Act.put, List.setIfInBounds_toArray, List.set_cons_zero, List.set_cons_succ]
  refine OrdU.wpAnyU_one (i := 8) (by kernel_rfl) rfl (fun K' hK => ?_)
  go_simp
  go_wp2_with (first | (go_at_call 22; refine (clone3_any (Kd.C_below HXa.out HB.out) L4.out).mono ?_; rintro e w4 ⟨v, rfl, ho⟩; obtain ⟨B4, d4, rfl, _⟩ := ho.reads; replace O2 := Aside0.mk (O2.out.far ho.bel); replace O3 := Aside0.mk (O3.out.far ho.bel); have O4 := Aside0.mk (ho.less HB.out); replace HS := Aside0.mk (blk_below HS.out ho.bel); replace HR := Aside0.mk (blk_below HR.out ho.bel); replace HB := Aside0.mk (below_step HB.out ho.bel); clear ho))
  refine hK.out _ _ (fun _ _ => HS.out) ?_
  clear hK
  try simp only [Act.put, List.setIfInBounds_toArray, List.set_cons_zero, List.set_cons_succ]
  have hs := HS.out
  have hr := HR.out
  have z0 := (blk_cell hs 0).trans (show _ = some (.int .i64 p) from rfl)
  have z1 := (blk_cell hs 1).trans (show _ = some (.int .i64 f) from rfl)
  have z2 := (blk_cell hs 2).trans (show _ = some (.slice A2 ws.length c2) from rfl)
  have z3 := (blk_cell hs 3).trans (show _ = some (.slice A3 ks.length c3) from rfl)
  have z4 := (blk_cell hs 4).trans (show _ = some (.slice A4 ac.length c4) from rfl)
  have y0 := (blk_cell hr 0).trans (show _ = some (.int .i64 0) from rfl)
  have y1 := (blk_cell hr 1).trans (show _ = some (.int .i64 0) from rfl)
  have y2 := (blk_cell hr 2).trans (show _ = some (.slice none 0 0) from rfl)
  have y3 := (blk_cell hr 3).trans (show _ = some (.slice none 0 0) from rfl)
  have y4 := (blk_cell hr 4).trans (show _ = some (.slice none 0 0) from rfl)
  have q2 := blk_frozen hs 2
  have q3 := blk_frozen hs 3
  have q4 := blk_frozen hs 4
  have x0 := blk_frozen hr 0
  have x1 := blk_frozen hr 1
  have x2 := blk_frozen hr 2
  have x3 := blk_frozen hr 3
  have x4 := blk_frozen hr 4
  clear hs hr
  refine OrdU.wpAnyU_one (i := 10) (by kernel_rfl) rfl (fun K' hK => ?_)
  go_simp
  refine hK.out _ _ (fun h => absurd h (by decide)) ?_
  clear hK
  try simp only [Act.put, List.setIfInBounds_toArray, List.set_cons_zero, List.set_cons_succ]
  refine OrdU.wpAnyU_takeW (i := 11) (v := ?v11) rfl (by kernel_rfl) (by kernel_rfl) (by kernel_rfl) (fun _ _ _ h => h) (Or.inl ⟨by rfl, ?hy11⟩) ?rest11
  case hy11 =>
    intro w1 hSw
    try dsimp only at hSw
    go_simp
    try with_reducible rfl
  try simp only [Act.put, List.setIfInBounds_toArray, List.set_cons_zero, List.set_cons_succ]
  refine OrdU.wpAnyU_one (i := 12) (by kernel_rfl) rfl (fun K' hK => ?_)
  go_simp
  refine hK.out _ _ (fun h => absurd h (by decide)) ?_
  clear hK
  try simp only [Act.put, List.setIfInBounds_toArray, List.set_cons_zero, List.set_cons_succ]
  refine OrdU.wpAnyU_takeW (i := 13) (v := ?v13) rfl (by kernel_rfl) (by kernel_rfl) (by kernel_rfl) (fun _ _ _ h => h) (Or.inl ⟨by rfl, ?hy13⟩) ?rest13
  case hy13 =>
    intro w1 hSw
    try dsimp only at hSw
    go_simp
    try with_reducible rfl
  try simp only [Act.put, List.setIfInBounds_toArray, List.set_cons_zero, List.set_cons_succ]
  refine OrdU.wpAnyU_one (i := 14) (by kernel_rfl) rfl (fun K' hK => ?_)
  go_simp
  refine hK.out _ _ (fun h => absurd h (by decide)) ?_
  clear hK
  try simp only [Act.put, List.setIfInBounds_toArray, List.set_cons_zero, List.set_cons_succ]
  refine OrdU.wpAnyU_done (by kernel_rfl) ?_ _
  go_wp2
  refine bodyPost_ret (results_cell_row rfl _ _ (w.heap.size + 1) 26 #[.int .i64 p, .int .i64 f, .slice B2 ws.length d2, .slice B3 ks.length d3, .slice B4 ac.length d4] (0, 0) _ rfl ?_ T.out rfl (by kernel_rfl)) rfl ?_
  · exact fin_heap HS.out HR.out (by omega)
  · exact ⟨B2, d2, B3, d3, B4, d4, rfl, fin_co HS.out HR.out (by omega) (by omega) (by omega) ⟨O2.out, O3.out, O4.out⟩⟩
end Go.Proofs.YtehcgojcmcahnaaDoor.Cf
