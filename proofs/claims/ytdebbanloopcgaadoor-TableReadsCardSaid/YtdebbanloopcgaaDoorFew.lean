/- Layer 4 (config): few, Clone. -/
import Derived.Test.YtdebbanloopcgaaDoorCfM1
import Derived.Test.YtdebbanloopcgaaDoorOrdU
set_option linter.unusedVariables false
set_option linter.unusedSimpArgs false
namespace Go.Proofs.YtdebbanloopcgaaDoor.Cf
open Go.RowKit Go.Proofs.YtdebbanloopcgaaDoorW.PrintWords Go.Proofs.YtdebbanloopcgaaDoorW.PrintLast Go.Proofs.YtdebbanloopcgaaDoorW.PrintMore Go.Proofs.YtdebbanloopcgaaDoor.Cz Go.Proofs.YtdebbanloopcgaaDoor.PTableWrites
attribute [local go_sem] max2_int min2_int max_two min_two max_three min_three max_four min_four Tryd.underlying26
def fewC (C : Cfg) : Cfg := ⟨C.p, C.f, C.ws.take 10, C.ks.take 10, C.ac.take 10⟩
theorem CX.few {W : World} {C : Cfg} {A2 A3 A4 : Option Addr} {c2 c3 c4 : Nat} (h : CX W C A2 c2 A3 c3 A4 c4) : CX W (fewC C) A2 c2 A3 c3 A4 c4 := by
  have e2 : (C.ws.take 10) = C.ws.take (min 10 C.ws.length) := by rw [List.take_eq_take_iff]; simp
  have e3 : (C.ks.take 10) = C.ks.take (min 10 C.ks.length) := by rw [List.take_eq_take_iff]; simp
  have e4 : (C.ac.take 10) = C.ac.take (min 10 C.ac.length) := by rw [List.take_eq_take_iff]; simp
  have h2 := h.wl
  have h3 := h.kl
  have h4 := h.al
  refine ⟨?_, ?_, ?_, ?_, ?_, ?_⟩
  · show Kd.C k46 W A2 (C.ws.take 10).length (C.ws.take 10)
    rw [e2]
    exact Kd.C_take h.w (Nat.min_le_right _ _)
  · show (C.ws.take 10).length ≤ c2
    rw [List.length_take]; omega
  · show Kd.C k57 W A3 (C.ks.take 10).length (C.ks.take 10)
    rw [e3]
    exact Kd.C_take h.k (Nat.min_le_right _ _)
  · show (C.ks.take 10).length ≤ c3
    rw [List.length_take]; omega
  · show Kd.C (Kd.int .i64) W A4 (C.ac.take 10).length (C.ac.take 10)
    rw [e4]
    exact Kd.C_take h.a (Nat.min_le_right _ _)
  · show (C.ac.take 10).length ≤ c4
    rw [List.length_take]; omega
theorem min_int (n : Nat) : (if (10 : Int) < (n : Int) then (10 : Int) else (n : Int)) = ((min 10 n : Nat) : Int) := by split <;> omega
set_option maxHeartbeats 4000000 in
set_option maxRecDepth 100000 in
theorem few_any {C : Cfg} {A2 A3 A4 : Option Addr} {c2 c3 c4 : Nat} {w : World} (h : CX w C A2 c2 A3 c3 A4 c4) (l2 : C.ws.length ≤ maxLen) (l3 : C.ks.length ≤ maxLen) (l4 : C.ac.length ≤ maxLen) :
    Calls Tryd.prog 10 #[.agg #[.int .i64 C.p, .int .i64 C.f, .slice A2 C.ws.length c2, .slice A3 C.ks.length c3, .slice A4 C.ac.length c4]] w fun e w' => e = .returned (.agg #[.int .i64 (fewC C).p, .int .i64 (fewC C).f, .slice A2 (fewC C).ws.length c2, .slice A3 (fewC C).ks.length c3, .slice A4 (fewC C).ac.length c4]) ∧ Below w.heap.size w w' := by
  obtain ⟨p, f, ws, ks, ac⟩ := C
  have h2 := h.wl
  have h3 := h.kl
  have h4 := h.al
  simp only [fewC, List.length_take] at h2 h3 h4 l2 l3 l4 ⊢
  clear h
  unfold maxLen at l2 l3 l4
  generalize ws.length = n2 at *
  generalize ks.length = n3 at *
  generalize ac.length = n4 at *
  obtain ⟨i2, hi2, _⟩ := info_parts info46
  obtain ⟨i3, hi3, _⟩ := info_parts info57
  obtain ⟨i4, hi4, _⟩ := info_parts info3
  have j2 := min_int n2
  have j3 := min_int n3
  have j4 := min_int n4
  have hcut2 : ∀ W : World, (Instr.slice 22 (.slice A2 n2 c2) none (some (.int .i64 ((min 10 n2 : Nat) : Int))) none).run Tryd.prog W = .ok (.slice A2 (min 10 n2) c2) W := cut_to (P := Tryd.prog) 22 46 .i64 Tryd.underlying22 hi2 A2 n2 c2 _ (by omega) (by omega) h2
  have hcut3 : ∀ W : World, (Instr.slice 23 (.slice A3 n3 c3) none (some (.int .i64 ((min 10 n3 : Nat) : Int))) none).run Tryd.prog W = .ok (.slice A3 (min 10 n3) c3) W := cut_to (P := Tryd.prog) 23 57 .i64 Tryd.underlying23 hi3 A3 n3 c3 _ (by omega) (by omega) h3
  have hcut4 : ∀ W : World, (Instr.slice 24 (.slice A4 n4 c4) none (some (.int .i64 ((min 10 n4 : Nat) : Int))) none).run Tryd.prog W = .ok (.slice A4 (min 10 n4) c4) W := cut_to (P := Tryd.prog) 24 3 .i64 Tryd.underlying24 hi4 A4 n4 c4 _ (by omega) (by omega) h4
  clear hi2 hi3 hi4 h2 h3 h4
  generalize min 10 n2 = m2 at *
  generalize min 10 n3 = m3 at *
  generalize min 10 n4 = m4 at *
  have T := Aside0.mk Tryd.underlying26
  go_enter Tryd.func10, Tryd.ntmps10
  go_upto_region 1 with (first | fail)
  -- THE REGION
  refine wp_region_any (by kernel_rfl) ?_
  change wpAny _ _ _ _ _ _ _ (World.drew _)
  refine OrdU.wpAny_of_U (S := fun w' => w'.cell? ⟨w.heap.size, 2, none⟩ = some (.slice A2 n2 c2) ∧ w'.cell? ⟨w.heap.size, 3, none⟩ = some (.slice A3 n3 c3) ∧ True) (U := fun j => j == 15 || j == 17) _ _ _ _ ?_
  have hS : ((w.alloc (.cells #[.int .i64 p, .int .i64 f, .slice A2 n2 c2, .slice A3 n3 c3, .slice A4 n4 c4] 26)).alloc (.cells #[.int .i64 0, .int .i64 0, .slice none 0 0, .slice none 0 0, .slice none 0 0] 26)).drew.cell? ⟨w.heap.size, 2, none⟩ = some (.slice A2 n2 c2) ∧ ((w.alloc (.cells #[.int .i64 p, .int .i64 f, .slice A2 n2 c2, .slice A3 n3 c3, .slice A4 n4 c4] 26)).alloc (.cells #[.int .i64 0, .int .i64 0, .slice none 0 0, .slice none 0 0, .slice none 0 0] 26)).drew.cell? ⟨w.heap.size, 3, none⟩ = some (.slice A3 n3 c3) ∧ True := ⟨(blk_cell (blk_drew (blk_alloc (blk_new w (.cells #[.int .i64 p, .int .i64 f, .slice A2 n2 c2, .slice A3 n3 c3, .slice A4 n4 c4] 26)) _)) 2).trans rfl, (blk_cell (blk_drew (blk_alloc (blk_new w (.cells #[.int .i64 p, .int .i64 f, .slice A2 n2 c2, .slice A3 n3 c3, .slice A4 n4 c4] 26)) _)) 3).trans rfl, trivial⟩
  replace hS := Aside0.mk hS
  refine OrdU.wpAnyU_takeW (i := 0) (v := ?v0) rfl (by kernel_rfl) (by kernel_rfl) (by kernel_rfl) (fun _ _ _ h => h) (Or.inl ⟨by rfl, ?hy0⟩) ?rest0
  case hy0 =>
    intro w1 hSw
    try dsimp only at hSw
    try (obtain ⟨s0, s1, s2⟩ := hSw)
    go_simp
    try with_reducible rfl
  try simp only [Act.put, List.setIfInBounds_toArray, List.set_cons_zero, List.set_cons_succ]
  refine OrdU.wpAnyU_take (i := 1) (v := ?v1) rfl (by kernel_rfl) (by kernel_rfl) (by kernel_rfl) (by kernel_rfl) (fun _ _ _ h => h) (Or.inl ⟨by rfl, ?hy1⟩) hS.out ?rest1
  case hy1 =>
    intro w1 hSw
    try dsimp only at hSw
    try (obtain ⟨s0, s1, s2⟩ := hSw)
    go_simp
    try with_reducible rfl
  try simp only [Act.put, List.setIfInBounds_toArray, List.set_cons_zero, List.set_cons_succ]
  refine OrdU.wpAnyU_takeW (i := 2) (v := ?v2) rfl (by kernel_rfl) (by kernel_rfl) (by kernel_rfl) (fun _ _ _ h => h) (Or.inl ⟨by rfl, ?hy2⟩) ?rest2
  case hy2 =>
    intro w1 hSw
    try dsimp only at hSw
    try (obtain ⟨s0, s1, s2⟩ := hSw)
    go_simp
    try with_reducible rfl
  try simp only [Act.put, List.setIfInBounds_toArray, List.set_cons_zero, List.set_cons_succ]
  refine OrdU.wpAnyU_take (i := 3) (v := ?v3) rfl (by kernel_rfl) (by kernel_rfl) (by kernel_rfl) (by kernel_rfl) (fun _ _ _ h => h) (Or.inl ⟨by rfl, ?hy3⟩) hS.out ?rest3
  case hy3 =>
    intro w1 hSw
    try dsimp only at hSw
    try (obtain ⟨s0, s1, s2⟩ := hSw)
    go_simp
    try with_reducible rfl
  try simp only [Act.put, List.setIfInBounds_toArray, List.set_cons_zero, List.set_cons_succ]
  refine OrdU.wpAnyU_takeW (i := 4) (v := ?v4) rfl (by kernel_rfl) (by kernel_rfl) (by kernel_rfl) (fun _ _ _ h => h) (Or.inl ⟨by rfl, ?hy4⟩) ?rest4
  case hy4 =>
    intro w1 hSw
    try dsimp only at hSw
    try (obtain ⟨s0, s1, s2⟩ := hSw)
    go_simp
    try with_reducible rfl
  try simp only [Act.put, List.setIfInBounds_toArray, List.set_cons_zero, List.set_cons_succ]
  refine OrdU.wpAnyU_takeW (i := 5) (v := ?v5) rfl (by kernel_rfl) (by kernel_rfl) (by kernel_rfl) (fun _ _ _ h => h) (Or.inl ⟨by rfl, ?hy5⟩) ?rest5
  case hy5 =>
    intro w1 hSw
    try dsimp only at hSw
    try (obtain ⟨s0, s1, s2⟩ := hSw)
    go_simp
    try with_reducible rfl
  try simp only [Act.put, List.setIfInBounds_toArray, List.set_cons_zero, List.set_cons_succ]
  refine OrdU.wpAnyU_takeW (i := 6) (v := ?v6) rfl (by kernel_rfl) (by kernel_rfl) (by kernel_rfl) (fun _ _ _ h => h) (Or.inl ⟨by rfl, ?hy6⟩) ?rest6
  case hy6 =>
    intro w1 hSw
    try dsimp only at hSw
    try (obtain ⟨s0, s1, s2⟩ := hSw)
    go_simp
    try with_reducible rfl
  try simp only [Act.put, List.setIfInBounds_toArray, List.set_cons_zero, List.set_cons_succ]
  refine OrdU.wpAnyU_takeW (i := 7) (v := ?v7) rfl (by kernel_rfl) (by kernel_rfl) (by kernel_rfl) (fun _ _ _ h => h) (Or.inl ⟨by rfl, ?hy7⟩) ?rest7
  case hy7 =>
    intro w1 hSw
    try dsimp only at hSw
    try (obtain ⟨s0, s1, s2⟩ := hSw)
    go_simp
    try with_reducible rfl
  try simp only [Act.put, List.setIfInBounds_toArray, List.set_cons_zero, List.set_cons_succ]
  refine OrdU.wpAnyU_take (i := 8) (v := ?v8) rfl (by kernel_rfl) (by kernel_rfl) (by kernel_rfl) (by kernel_rfl) (fun _ _ _ h => h) (Or.inl ⟨by rfl, ?hy8⟩) hS.out ?rest8
  case hy8 =>
    intro w1 hSw
    try dsimp only at hSw
    try (obtain ⟨s0, s1, s2⟩ := hSw)
    go_simp
    try with_reducible rfl
  try simp only [Act.put, List.setIfInBounds_toArray, List.set_cons_zero, List.set_cons_succ]
  refine OrdU.wpAnyU_takeW (i := 9) (v := ?v9) rfl (by kernel_rfl) (by kernel_rfl) (by kernel_rfl) (fun _ _ _ h => h) (Or.inl ⟨by rfl, ?hy9⟩) ?rest9
  case hy9 =>
    intro w1 hSw
    try dsimp only at hSw
    try (obtain ⟨s0, s1, s2⟩ := hSw)
    go_simp
    try with_reducible rfl
  try simp only [Act.put, List.setIfInBounds_toArray, List.set_cons_zero, List.set_cons_succ]
  refine OrdU.wpAnyU_take (i := 10) (v := ?v10) rfl (by kernel_rfl) (by kernel_rfl) (by kernel_rfl) (by kernel_rfl) (fun _ _ _ h => h) (Or.inl ⟨by rfl, ?hy10⟩) hS.out ?rest10
  case hy10 =>
    intro w1 hSw
    try dsimp only at hSw
    try (obtain ⟨s0, s1, s2⟩ := hSw)
    go_simp
    try with_reducible rfl
  try simp only [Act.put, List.setIfInBounds_toArray, List.set_cons_zero, List.set_cons_succ]
  refine OrdU.wpAnyU_takeW (i := 11) (v := ?v11) rfl (by kernel_rfl) (by kernel_rfl) (by kernel_rfl) (fun _ _ _ h => h) (Or.inl ⟨by rfl, ?hy11⟩) ?rest11
  case hy11 =>
    intro w1 hSw
    try dsimp only at hSw
    try (obtain ⟨s0, s1, s2⟩ := hSw)
    go_simp
    try with_reducible rfl
  try simp only [Act.put, List.setIfInBounds_toArray, List.set_cons_zero, List.set_cons_succ]
  refine OrdU.wpAnyU_takeW (i := 12) (v := ?v12) rfl (by kernel_rfl) (by kernel_rfl) (by kernel_rfl) (fun _ _ _ h => h) (Or.inl ⟨by rfl, ?hy12⟩) ?rest12
  case hy12 =>
    intro w1 hSw
    try dsimp only at hSw
    try (obtain ⟨s0, s1, s2⟩ := hSw)
    go_simp
    try with_reducible rfl
  try simp only [Act.put, List.setIfInBounds_toArray, List.set_cons_zero, List.set_cons_succ]
  refine OrdU.wpAnyU_takeW (i := 13) (v := ?v13) rfl (by kernel_rfl) (by kernel_rfl) (by kernel_rfl) (fun _ _ _ h => h) (Or.inl ⟨by rfl, ?hy13⟩) ?rest13
  case hy13 =>
    intro w1 hSw
    try dsimp only at hSw
    try (obtain ⟨s0, s1, s2⟩ := hSw)
    go_simp
    try with_reducible rfl
  try simp only [Act.put, List.setIfInBounds_toArray, List.set_cons_zero, List.set_cons_succ]
  refine OrdU.wpAnyU_takeW (i := 14) (v := ?v14) rfl (by kernel_rfl) (by kernel_rfl) (by kernel_rfl) (fun _ _ _ h => h) (Or.inl ⟨by rfl, ?hy14⟩) ?rest14
  case hy14 =>
    intro w1 hSw
    try dsimp only at hSw
    try (obtain ⟨s0, s1, s2⟩ := hSw)
    go_simp
    try with_reducible rfl
  try simp only [Act.put, List.setIfInBounds_toArray, List.set_cons_zero, List.set_cons_succ]
  refine OrdU.wpAnyU_one (i := 15) (by kernel_rfl) rfl (fun K' hK => ?_)
  go_simp
  refine hK.out _ _ (fun h => absurd h (by decide)) ?_
  clear hK
  try simp only [Act.put, List.setIfInBounds_toArray, List.set_cons_zero, List.set_cons_succ]
  refine OrdU.wpAnyU_takeW (i := 16) (v := ?v16) rfl (by kernel_rfl) (by kernel_rfl) (by kernel_rfl) (fun _ _ _ h => h) (Or.inl ⟨by rfl, ?hy16⟩) ?rest16
  case hy16 =>
    intro w1 hSw
    try dsimp only at hSw
    try (obtain ⟨s0, s1, s2⟩ := hSw)
    go_simp
    try with_reducible rfl
  try simp only [Act.put, List.setIfInBounds_toArray, List.set_cons_zero, List.set_cons_succ]
  refine OrdU.wpAnyU_one (i := 17) (by kernel_rfl) rfl (fun K' hK => ?_)
  go_simp
  refine hK.out _ _ (fun h => absurd h (by decide)) ?_
  clear hK
  try simp only [Act.put, List.setIfInBounds_toArray, List.set_cons_zero, List.set_cons_succ]
  refine OrdU.wpAnyU_done (by kernel_rfl) ?_ _
  go_wp2
  refine bodyPost_ret (results_cell_row rfl _ _ (w.heap.size + 1) 26 #[.int .i64 p, .int .i64 f, .slice A2 m2 c2, .slice A3 m3 c3, .slice A4 m4 c4] (0, 0) _ rfl ?hheap T.out rfl (by kernel_rfl)) rfl ?_
  case hheap => exact blk_drew (by simpa using heap_alloc_new (w.alloc (.cells #[.int .i64 p, .int .i64 f, .slice A2 m2 c2, .slice A3 m3 c3, .slice A4 m4 c4] 26)) (.cells #[.int .i64 p, .int .i64 f, .slice A2 m2 c2, .slice A3 m3 c3, .slice A4 m4 c4] 26))
  exact ⟨rfl, below_drew (below_alloc (below_alloc (Below.refl _ _) _) _)⟩
end Go.Proofs.YtdebbanloopcgaaDoor.Cf
