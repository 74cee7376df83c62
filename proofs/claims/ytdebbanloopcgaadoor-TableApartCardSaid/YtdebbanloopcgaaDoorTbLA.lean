/- TableApart: the walk. -/
import Derived.Test.YtdebbanloopcgaaDoorTbLZ
import Derived.Deep.RegionHeld3
set_option linter.unusedVariables false
set_option linter.unusedSimpArgs false
namespace Go.Proofs.YtdebbanloopcgaaDoor.Tb
open Go Go.RowKit Go.Proofs.YtdebbanloopcgaaDoorW.PrintWords Go.Proofs.YtdebbanloopcgaaDoorW.PrintLast Go.Proofs.YtdebbanloopcgaaDoorW.PrintMore Go.Proofs.YtdebbanloopcgaaDoor.Cz Go.Proofs.YtdebbanloopcgaaDoor.PTableWrites Go.Proofs.YtdebbanloopcgaaDoor.Cf
attribute [local go_sem] max2_int min2_int max_two min_two max_three min_three max_four min_four Tryd.underlying26 Tryd.underlying46 Tryd.underlying57
/-- A config that Good made, where two blocks may be written. -/
def KO (W : World) (q5 q6 : Nat) (v : Value) : Prop := ∃ (G : Cfg) (X2 : Option Addr) (x2 : Nat) (X3 : Option Addr) (x3 : Nat) (X4 : Option Addr) (x4 : Nat), GoodC G ∧ v = .agg #[.int .i64 G.p, .int .i64 G.f, .slice X2 G.ws.length x2, .slice X3 G.ks.length x3, .slice X4 G.ac.length x4] ∧ ∀ W', (∀ b, b < W.heap.size → b ≠ q5 → b ≠ q6 → W'.heap[b]? = W.heap[b]?) → CX W' G X2 x2 X3 x3 X4 x4
theorem KO.step {W W1 : World} {q5 q6 : Nat} {v : Value} (h : KO W q5 q6 v) (hb : Below W.heap.size W W1) : KO W1 q5 q6 v := by
  obtain ⟨G, X2, x2, X3, x3, X4, x4, hG, e, hm⟩ := h
  exact ⟨G, X2, x2, X3, x3, X4, x4, hG, e, fun W' h => hm W' (fun b h1 h2 h3 => (h b (Nat.lt_of_lt_of_le h1 hb.size) h2 h3).trans (hb.block b h1))⟩
theorem KO.al5 {W : World} {q5 q6 : Nat} {v : Value} {lo : Nat} (h : KO W lo q6 v) (hl : q5 = W.heap.size) : KO (W.alloc (.cells #[.int .i64 0, .int .i64 0, .slice none 0 0, .slice none 0 0, .slice none 0 0] 26)) q5 q6 v := by
  obtain ⟨G, X2, x2, X3, x3, X4, x4, hG, e, hm⟩ := h
  refine ⟨G, X2, x2, X3, x3, X4, x4, hG, e, fun W' h => hm W' (fun b h1 h2 h3 => ?_)⟩
  have hb := below_alloc (Below.refl W.heap.size W) (.cells #[.int .i64 0, .int .i64 0, .slice none 0 0, .slice none 0 0, .slice none 0 0] 26)
  exact (h b (Nat.lt_of_lt_of_le h1 hb.size) (by omega) h3).trans (hb.block b h1)
theorem KO.al6 {W : World} {q5 q6 : Nat} {v : Value} {lo : Nat} (h : KO W q5 lo v) (hl : q6 = W.heap.size) : KO (W.alloc (.cells #[.int .i64 0, .int .i64 0, .slice none 0 0, .slice none 0 0, .slice none 0 0] 26)) q5 q6 v := by
  obtain ⟨G, X2, x2, X3, x3, X4, x4, hG, e, hm⟩ := h
  refine ⟨G, X2, x2, X3, x3, X4, x4, hG, e, fun W' h => hm W' (fun b h1 h2 h3 => ?_)⟩
  have hb := below_alloc (Below.refl W.heap.size W) (.cells #[.int .i64 0, .int .i64 0, .slice none 0 0, .slice none 0 0, .slice none 0 0] 26)
  exact (h b (Nat.lt_of_lt_of_le h1 hb.size) h2 (by omega)).trans (hb.block b h1)
theorem KO.new {w W : World} {q5 q6 : Nat} {e : Ending} (h : GR w e W) (h5 : q5 < w.heap.size) (h6 : q6 < w.heap.size) : ∃ v, e = .returned v ∧ KO W q5 q6 v ∧ Below w.heap.size w W := by
  obtain ⟨G, X2, x2, X3, x3, X4, x4, hG, rfl, hm, hb⟩ := h
  exact ⟨_, rfl, ⟨G, X2, x2, X3, x3, X4, x4, hG, rfl, fun W' h => hm W' (fun b h1 h2 => h b h2 (by omega) (by omega))⟩, hb⟩
/-- How far the region is. -/
structure FS (w3 W : World) (n : Nat) (x y : Bool) (s : Value × Value × Nat × Nat) : Prop where
  bel : Below w3.heap.size w3 W
  l5 : s.2.2.1 < W.heap.size
  l6 : s.2.2.2 < W.heap.size
  z5 : x = true → W.heap[s.2.2.1]? = some (.cells #[.int .i64 0, .int .i64 0, .slice none 0 0, .slice none 0 0, .slice none 0 0] 26 (0, 0)) ∧ w3.heap.size ≤ s.2.2.1
  z6 : y = true → W.heap[s.2.2.2]? = some (.cells #[.int .i64 0, .int .i64 0, .slice none 0 0, .slice none 0 0, .slice none 0 0] 26 (0, 0)) ∧ w3.heap.size ≤ s.2.2.2
  ne : x = true → y = true → s.2.2.1 ≠ s.2.2.2
  k15 : 2 ≤ n → KO W s.2.2.1 s.2.2.2 s.1
  k18 : 4 ≤ n → KO W s.2.2.1 s.2.2.2 s.2.1
theorem FS.step {w3 W W1 : World} {n : Nat} {x y : Bool} {s : Value × Value × Nat × Nat} (h : FS w3 W n x y s) (hb : Below W.heap.size W W1) : FS w3 W1 n x y s :=
  ⟨below_step h.bel hb, Nat.lt_of_lt_of_le h.l5 hb.size, Nat.lt_of_lt_of_le h.l6 hb.size, fun e => ⟨blk_below (h.z5 e).1 hb, (h.z5 e).2⟩, fun e => ⟨blk_below (h.z6 e).1 hb, (h.z6 e).2⟩, h.ne, fun e => (h.k15 e).step hb, fun e => (h.k18 e).step hb⟩
theorem FS.few {w3 W : World} {n m : Nat} {x y : Bool} {s : Value × Value × Nat × Nat} (h : FS w3 W n x y s) (h1 : 2 ≤ m → 2 ≤ n) (h2 : 4 ≤ m → 4 ≤ n) : FS w3 W m x y s :=
  ⟨h.bel, h.l5, h.l6, h.z5, h.z6, h.ne, fun e => h.k15 (h1 e), fun e => h.k18 (h2 e)⟩
theorem FS.one {w3 W W1 : World} {x y : Bool} {s : Value × Value × Nat × Nat} {v : Value} (h : FS w3 W 1 x y s) (hb : Below W.heap.size W W1) (k : KO W1 s.2.2.1 s.2.2.2 v) : FS w3 W1 2 x y (v, s.2.1, s.2.2.1, s.2.2.2) := by
  have h' := h.step hb
  exact ⟨h'.bel, h'.l5, h'.l6, h'.z5, h'.z6, h'.ne, fun _ => k, fun e => absurd e (by decide)⟩
theorem FS.two {w3 W W1 : World} {x y : Bool} {s : Value × Value × Nat × Nat} {v : Value} (h : FS w3 W 3 x y s) (hb : Below W.heap.size W W1) (k : KO W1 s.2.2.1 s.2.2.2 v) : FS w3 W1 4 x y (s.1, v, s.2.2.1, s.2.2.2) := by
  have h' := h.step hb
  exact ⟨h'.bel, h'.l5, h'.l6, h'.z5, h'.z6, h'.ne, fun _ => h'.k15 (by decide), fun _ => k⟩
theorem FS.al5 {w3 W : World} {n : Nat} {y : Bool} {s : Value × Value × Nat × Nat} (h : FS w3 W n false y s) : FS w3 (W.alloc (.cells #[.int .i64 0, .int .i64 0, .slice none 0 0, .slice none 0 0, .slice none 0 0] 26)) n true y (s.1, s.2.1, W.heap.size, s.2.2.2) := by
  have hb := below_alloc (Below.refl W.heap.size W) (.cells #[.int .i64 0, .int .i64 0, .slice none 0 0, .slice none 0 0, .slice none 0 0] 26)
  have hs : (W.alloc (.cells #[.int .i64 0, .int .i64 0, .slice none 0 0, .slice none 0 0, .slice none 0 0] 26)).heap.size = W.heap.size + 1 := World.size_alloc _ _
  exact ⟨below_step h.bel hb, by show W.heap.size < _; omega, Nat.lt_of_lt_of_le h.l6 hb.size, fun _ => ⟨blk_new _ _, h.bel.size⟩, fun e => ⟨blk_below (h.z6 e).1 hb, (h.z6 e).2⟩, fun _ _ => Nat.ne_of_gt h.l6, fun e => (h.k15 e).al5 rfl, fun e => (h.k18 e).al5 rfl⟩
theorem FS.al6 {w3 W : World} {n : Nat} {x : Bool} {s : Value × Value × Nat × Nat} (h : FS w3 W n x false s) : FS w3 (W.alloc (.cells #[.int .i64 0, .int .i64 0, .slice none 0 0, .slice none 0 0, .slice none 0 0] 26)) n x true (s.1, s.2.1, s.2.2.1, W.heap.size) := by
  have hb := below_alloc (Below.refl W.heap.size W) (.cells #[.int .i64 0, .int .i64 0, .slice none 0 0, .slice none 0 0, .slice none 0 0] 26)
  have hs : (W.alloc (.cells #[.int .i64 0, .int .i64 0, .slice none 0 0, .slice none 0 0, .slice none 0 0] 26)).heap.size = W.heap.size + 1 := World.size_alloc _ _
  exact ⟨below_step h.bel hb, Nat.lt_of_lt_of_le h.l5 hb.size, by show W.heap.size < _; omega, fun e => ⟨blk_below (h.z5 e).1 hb, (h.z5 e).2⟩, fun _ => ⟨blk_new _ _, h.bel.size⟩, fun _ _ => Nat.ne_of_lt h.l5, fun e => (h.k15 e).al6 rfl, fun e => (h.k18 e).al6 rfl⟩
theorem apart_law {G H : Cfg} (hG : okB G = true) (hH : okB H = true) : ((strOfNums (encB G)).toList == (strOfNums (encB H)).toList) = sB G H := by
  have e1 : encB G = sealB (tabB G) := by unfold encB; rw [if_pos hG]
  have e2 : encB H = sealB (tabB H) := by unfold encB; rw [if_pos hH]
  by_cases h : G = H
  · subst h
    rw [sB_refl]
    exact beq_self_eq_true _
  · rw [Wi.str_ne (fun hs => h ?_)]
    · cases hb : sB G H
      · rfl
      · exact absurd (sB_iff.1 hb) h
    · have hx := (Wi.str_inj (encB_wf G) (encB_wf H)).1 hs
      rw [e1, e2] at hx
      exact tab_inj hG hH hx
set_option maxHeartbeats 16000000 in
set_option maxRecDepth 100000 in
theorem tableApart_any {C D : Cfg} {A2 A3 A4 : Option Addr} {c2 c3 c4 : Nat} {B2 B3 B4 : Option Addr} {d2 d3 d4 : Nat} {w : World} (h : CX w C A2 c2 A3 c3 A4 c4) (h' : CX w D B2 d2 B3 d3 B4 d4)
    (l2 : C.ws.length ≤ maxLen) (l3 : C.ks.length ≤ maxLen) (l4 : C.ac.length ≤ maxLen) (m2 : D.ws.length ≤ maxLen) (m3 : D.ks.length ≤ maxLen) (m4 : D.ac.length ≤ maxLen) (hg : LG w) :
    Calls Tryd.prog 6 #[.agg #[.int .i64 C.p, .int .i64 C.f, .slice A2 C.ws.length c2, .slice A3 C.ks.length c3, .slice A4 C.ac.length c4], .agg #[.int .i64 D.p, .int .i64 D.f, .slice B2 D.ws.length d2, .slice B3 D.ks.length d3, .slice B4 D.ac.length d4]] w fun e w' => e = .returned (.bool true) ∧ Below w.heap.size w w' := by
  have FA := Aside0.mk (fun w1 (hb : Below w.heap.size w w1) => few_any (h.below hb) l2 l3 l4)
  have FB := Aside0.mk (fun w1 (hb : Below w.heap.size w w1) => few_any (h'.below hb) m2 m3 m4)
  have HXA := Aside0.mk h.few
  have HXB := Aside0.mk h'.few
  have HG := Aside0.mk hg
  have B1 : Aside0 (((w.alloc (.cells #[.int .i64 C.p, .int .i64 C.f, .slice A2 C.ws.length c2, .slice A3 C.ks.length c3, .slice A4 C.ac.length c4] 26)).alloc (.cells #[.int .i64 D.p, .int .i64 D.f, .slice B2 D.ws.length d2, .slice B3 D.ks.length d3, .slice B4 D.ac.length d4] 26)).heap[w.heap.size]? = some (.cells #[.int .i64 C.p, .int .i64 C.f, .slice A2 C.ws.length c2, .slice A3 C.ks.length c3, .slice A4 C.ac.length c4] 26 (0, 0)) ∧ ((w.alloc (.cells #[.int .i64 C.p, .int .i64 C.f, .slice A2 C.ws.length c2, .slice A3 C.ks.length c3, .slice A4 C.ac.length c4] 26)).alloc (.cells #[.int .i64 D.p, .int .i64 D.f, .slice B2 D.ws.length d2, .slice B3 D.ks.length d3, .slice B4 D.ac.length d4] 26)).heap[w.heap.size + 1]? = some (.cells #[.int .i64 D.p, .int .i64 D.f, .slice B2 D.ws.length d2, .slice B3 D.ks.length d3, .slice B4 D.ac.length d4] 26 (0, 0)) ∧ Below w.heap.size w ((w.alloc (.cells #[.int .i64 C.p, .int .i64 C.f, .slice A2 C.ws.length c2, .slice A3 C.ks.length c3, .slice A4 C.ac.length c4] 26)).alloc (.cells #[.int .i64 D.p, .int .i64 D.f, .slice B2 D.ws.length d2, .slice B3 D.ks.length d3, .slice B4 D.ac.length d4] 26))) := ⟨⟨blk_alloc (blk_new _ _) _, by have := blk_new (w.alloc (.cells #[.int .i64 C.p, .int .i64 C.f, .slice A2 C.ws.length c2, .slice A3 C.ks.length c3, .slice A4 C.ac.length c4] 26)) (.cells #[.int .i64 D.p, .int .i64 D.f, .slice B2 D.ws.length d2, .slice B3 D.ks.length d3, .slice B4 D.ac.length d4] 26); rw [World.size_alloc] at this; exact this, below_alloc (below_alloc (Below.refl _ _) _) _⟩⟩
  clear h h' l2 l3 l4 m2 m3 m4 hg
  generalize fewC C = P at FA HXA
  generalize fewC D = Q at FB HXB
  go_enter Tryd.func6, Tryd.ntmps6
  go_upto_region 3 with (first | (go_at_call 9; refine (lives_any (HG.out.below B1.out.2.2)).mono ?_; rintro e w3 ⟨rfl, hb⟩; have R3 := Aside0.mk (And.intro (blk_below B1.out.1 hb) (And.intro (blk_below B1.out.2.1 hb) (below_step B1.out.2.2 hb))); clear hb))
  clear B1
  have s0 := (blk_cell R3.out.1 0).trans (show _ = some (.int .i64 C.p) from rfl)
  have s1 := (blk_cell R3.out.1 1).trans (show _ = some (.int .i64 C.f) from rfl)
  have s2 := (blk_cell R3.out.1 2).trans (show _ = some (.slice A2 C.ws.length c2) from rfl)
  have s3 := (blk_cell R3.out.1 3).trans (show _ = some (.slice A3 C.ks.length c3) from rfl)
  have s4 := (blk_cell R3.out.1 4).trans (show _ = some (.slice A4 C.ac.length c4) from rfl)
  have t0 := (blk_cell R3.out.2.1 0).trans (show _ = some (.int .i64 D.p) from rfl)
  have t1 := (blk_cell R3.out.2.1 1).trans (show _ = some (.int .i64 D.f) from rfl)
  have t2 := (blk_cell R3.out.2.1 2).trans (show _ = some (.slice B2 D.ws.length d2) from rfl)
  have t3 := (blk_cell R3.out.2.1 3).trans (show _ = some (.slice B3 D.ks.length d3) from rfl)
  have t4 := (blk_cell R3.out.2.1 4).trans (show _ = some (.slice B4 D.ac.length d4) from rfl)
  have TS := Aside0.mk (fun (W : World) (hb : Below w3.heap.size w3 W) => And.intro (cell_b s0 hb) (And.intro (cell_b s1 hb) (And.intro (cell_b s2 hb) (And.intro (cell_b s3 hb) (And.intro (cell_b s4 hb) (And.intro (cell_b t0 hb) (And.intro (cell_b t1 hb) (And.intro (cell_b t2 hb) (And.intro (cell_b t3 hb) (cell_b t4 hb))))))))))
  clear s0 s1 s2 s3 s4 t0 t1 t2 t3 t4
  refine start_ (n := 10) (S := (fun w' => w'.cell? ⟨w.heap.size, 0, none⟩ = some (.int .i64 C.p) ∧ w'.cell? ⟨w.heap.size, 1, none⟩ = some (.int .i64 C.f) ∧ w'.cell? ⟨w.heap.size, 2, none⟩ = some (.slice A2 C.ws.length c2) ∧ w'.cell? ⟨w.heap.size, 3, none⟩ = some (.slice A3 C.ks.length c3) ∧ w'.cell? ⟨w.heap.size, 4, none⟩ = some (.slice A4 C.ac.length c4) ∧ w'.cell? ⟨w.heap.size + 1, 0, none⟩ = some (.int .i64 D.p) ∧ w'.cell? ⟨w.heap.size + 1, 1, none⟩ = some (.int .i64 D.f) ∧ w'.cell? ⟨w.heap.size + 1, 2, none⟩ = some (.slice B2 D.ws.length d2) ∧ w'.cell? ⟨w.heap.size + 1, 3, none⟩ = some (.slice B3 D.ks.length d3) ∧ w'.cell? ⟨w.heap.size + 1, 4, none⟩ = some (.slice B4 D.ac.length d4))) (ds := [8, 9]) #[false, false, false, false, false, false, false, false, false, false] (by kernel_rfl) rfl rfl (TS.out _ (below_drew (Below.refl _ _))) (fun hHeld => ?_)
  refine take_ (i := 0) (N := some 13) (v := ?_) (a' := ?_) #[true, false, false, false, false, false, false, false, false, false] rfl rfl (by kernel_rfl) (fun _ _ _ h => h) (Or.inl ⟨by rfl, ?_⟩) hHeld ?_ ?_
  rotate_left
  · intro w' hSw
    obtain ⟨s0, s1, s2, s3, s4, t0, t1, t2, t3, t4⟩ := hSw
    go_simp
    with_reducible rfl
  rotate_left
  · simp only [Act.put, List.setIfInBounds_toArray, List.set_cons_zero, List.set_cons_succ, i64_w, i32_w]
    rfl
  refine take_ (i := 3) (N := some 16) (v := ?_) (a' := ?_) #[true, false, false, true, false, false, false, false, false, false] rfl rfl (by kernel_rfl) (fun _ _ _ h => h) (Or.inl ⟨by rfl, ?_⟩) hHeld ?_ ?_
  rotate_left
  · intro w' hSw
    obtain ⟨s0, s1, s2, s3, s4, t0, t1, t2, t3, t4⟩ := hSw
    go_simp
    with_reducible rfl
  rotate_left
  · simp only [Act.put, List.setIfInBounds_toArray, List.set_cons_zero, List.set_cons_succ, i64_w, i32_w]
    rfl
  clear hHeld
  refine join_ 2 #[true, true, true, true, true, true, true, true, false, false] (fun (s : Value × Value × Nat × Nat) => ([(14, .agg #[.int .i64 P.p, .int .i64 P.f, .slice A2 P.ws.length c2, .slice A3 P.ks.length c3, .slice A4 P.ac.length c4]), (15, s.1), (17, .agg #[.int .i64 Q.p, .int .i64 Q.f, .slice B2 Q.ws.length d2, .slice B3 Q.ks.length d3, .slice B4 Q.ac.length d4]), (18, s.2.1), (5, .pointer (some ⟨s.2.2.1, 0, none⟩)), (6, .pointer (some ⟨s.2.2.2, 0, none⟩))] : List (Tmp × Value))) (fun s W => FS w3 W 4 true true s) ?last (fun J411 => ?_)
  rotate_left
  replace J411 := Aside0.mk J411
  refine join_ 3 #[true, true, true, true, true, true, true, false, false, false] (fun (s : Value × Value × Nat × Nat) => ([(14, .agg #[.int .i64 P.p, .int .i64 P.f, .slice A2 P.ws.length c2, .slice A3 P.ks.length c3, .slice A4 P.ac.length c4]), (15, s.1), (17, .agg #[.int .i64 Q.p, .int .i64 Q.f, .slice B2 Q.ws.length d2, .slice B3 Q.ks.length d3, .slice B4 Q.ac.length d4]), (18, s.2.1), (5, .pointer (some ⟨s.2.2.1, 0, none⟩))] : List (Tmp × Value))) (fun s W => FS w3 W 4 true false s) ?_ (fun J410 => ?_)
  ·
    intro s W hF0
    have hF : Aside0 (FS w3 W 4 true false s) := ⟨hF0⟩
    clear hF0
    refine one_ (i := 7) (N := some 6) #[true, true, true, true, true, true, true, true, false, false] rfl rfl (by kernel_rfl) (by decide) ?_
    · intro K hK
      refine value_ (w1 := ?_) (v := ?_) (by rfl) rfl ?_ ?_
      rotate_left 2
      · go_simp
        constructor
        · rfl
        · rfl
      have hF2 := hF.out.al6
      refine hK.out _ _ (TS.out _ hF2.bel) (fun hHeld => ?_)
      clear hK K hHeld
      refine norm_ ?_ (J411.out (s.1, s.2.1, s.2.2.1, W.heap.size) _ hF2)
      simp only [putAll, Act.put, List.setIfInBounds_toArray, List.set_cons_zero, List.set_cons_succ]
  replace J410 := Aside0.mk J410
  refine join_ 3 #[true, true, true, true, true, true, false, true, false, false] (fun (s : Value × Value × Nat × Nat) => ([(14, .agg #[.int .i64 P.p, .int .i64 P.f, .slice A2 P.ws.length c2, .slice A3 P.ks.length c3, .slice A4 P.ac.length c4]), (15, s.1), (17, .agg #[.int .i64 Q.p, .int .i64 Q.f, .slice B2 Q.ws.length d2, .slice B3 Q.ks.length d3, .slice B4 Q.ac.length d4]), (18, s.2.1), (6, .pointer (some ⟨s.2.2.2, 0, none⟩))] : List (Tmp × Value))) (fun s W => FS w3 W 4 false true s) ?_ (fun J401 => ?_)
  ·
    intro s W hF0
    have hF : Aside0 (FS w3 W 4 false true s) := ⟨hF0⟩
    clear hF0
    refine one_ (i := 6) (N := some 5) #[true, true, true, true, true, true, true, true, false, false] rfl rfl (by kernel_rfl) (by decide) ?_
    · intro K hK
      refine value_ (w1 := ?_) (v := ?_) (by rfl) rfl ?_ ?_
      rotate_left 2
      · go_simp
        constructor
        · rfl
        · rfl
      have hF2 := hF.out.al5
      refine hK.out _ _ (TS.out _ hF2.bel) (fun hHeld => ?_)
      clear hK K hHeld
      refine norm_ ?_ (J411.out (s.1, s.2.1, W.heap.size, s.2.2.2) _ hF2)
      simp only [putAll, Act.put, List.setIfInBounds_toArray, List.set_cons_zero, List.set_cons_succ]
  replace J401 := Aside0.mk J401
  refine join_ 4 #[true, true, true, true, true, true, false, false, false, false] (fun (s : Value × Value × Nat × Nat) => ([(14, .agg #[.int .i64 P.p, .int .i64 P.f, .slice A2 P.ws.length c2, .slice A3 P.ks.length c3, .slice A4 P.ac.length c4]), (15, s.1), (17, .agg #[.int .i64 Q.p, .int .i64 Q.f, .slice B2 Q.ws.length d2, .slice B3 Q.ks.length d3, .slice B4 Q.ac.length d4]), (18, s.2.1)] : List (Tmp × Value))) (fun s W => FS w3 W 4 false false s) ?_ (fun J400 => ?_)
  ·
    intro s W hF0
    have hF : Aside0 (FS w3 W 4 false false s) := ⟨hF0⟩
    clear hF0
    refine two_ (i := 6) (j := 7) (Ni := some 5) (Nj := some 6) #[true, true, true, true, true, true, true, false, false, false] #[true, true, true, true, true, true, false, true, false, false] rfl rfl rfl rfl (by kernel_rfl) (by decide) (by decide) ?_ ?_
    · intro K hK
      refine value_ (w1 := ?_) (v := ?_) (by rfl) rfl ?_ ?_
      rotate_left 2
      · go_simp
        constructor
        · rfl
        · rfl
      have hF2 := hF.out.al5
      refine hK.out _ _ (TS.out _ hF2.bel) (fun hHeld => ?_)
      clear hK K hHeld
      refine norm_ ?_ (J410.out (s.1, s.2.1, W.heap.size, s.2.2.2) _ hF2)
      simp only [putAll, Act.put, List.setIfInBounds_toArray, List.set_cons_zero, List.set_cons_succ]
    · intro K hK
      refine value_ (w1 := ?_) (v := ?_) (by rfl) rfl ?_ ?_
      rotate_left 2
      · go_simp
        constructor
        · rfl
        · rfl
      have hF2 := hF.out.al6
      refine hK.out _ _ (TS.out _ hF2.bel) (fun hHeld => ?_)
      clear hK K hHeld
      refine norm_ ?_ (J401.out (s.1, s.2.1, s.2.2.1, W.heap.size) _ hF2)
      simp only [putAll, Act.put, List.setIfInBounds_toArray, List.set_cons_zero, List.set_cons_succ]
  replace J400 := Aside0.mk J400
  refine join_ 3 #[true, true, true, true, true, false, true, true, false, false] (fun (s : Value × Value × Nat × Nat) => ([(14, .agg #[.int .i64 P.p, .int .i64 P.f, .slice A2 P.ws.length c2, .slice A3 P.ks.length c3, .slice A4 P.ac.length c4]), (15, s.1), (17, .agg #[.int .i64 Q.p, .int .i64 Q.f, .slice B2 Q.ws.length d2, .slice B3 Q.ks.length d3, .slice B4 Q.ac.length d4]), (5, .pointer (some ⟨s.2.2.1, 0, none⟩)), (6, .pointer (some ⟨s.2.2.2, 0, none⟩))] : List (Tmp × Value))) (fun s W => FS w3 W 3 true true s) ?_ (fun J311 => ?_)
  ·
    intro s W hF0
    have hF : Aside0 (FS w3 W 3 true true s) := ⟨hF0⟩
    clear hF0
    refine one_ (i := 5) (N := some 18) #[true, true, true, true, true, true, true, true, false, false] rfl rfl (by kernel_rfl) (by decide) ?_
    · intro K hK
      refine goes_ Tryd.func14 (by kernel_rfl) rfl #[.agg #[.int .i64 Q.p, .int .i64 Q.f, .slice B2 Q.ws.length d2, .slice B3 Q.ks.length d3, .slice B4 Q.ac.length d4]] (by rfl) rfl rfl (by (try simp only [List.map_toArray, List.map_cons, List.map_nil]); first | done | rfl) ?_
      (with_reducible refine (good_any (HXB.out.below (below_step R3.out.2.2 hF.out.bel))).mono ?_)
      intro e w5 hgr
      obtain ⟨v, rfl, hko, hb⟩ := KO.new hgr hF.out.l5 hF.out.l6
      refine ⟨_, rfl, ?_⟩
      have hF2 := hF.out.two hb hko
      refine hK.out _ _ (TS.out _ hF2.bel) (fun hHeld => ?_)
      clear hK K hHeld
      refine norm_ ?_ (J411.out (s.1, v, s.2.2.1, s.2.2.2) _ hF2)
      simp only [putAll, Act.put, List.setIfInBounds_toArray, List.set_cons_zero, List.set_cons_succ]
  replace J311 := Aside0.mk J311
  refine join_ 4 #[true, true, true, true, true, false, true, false, false, false] (fun (s : Value × Value × Nat × Nat) => ([(14, .agg #[.int .i64 P.p, .int .i64 P.f, .slice A2 P.ws.length c2, .slice A3 P.ks.length c3, .slice A4 P.ac.length c4]), (15, s.1), (17, .agg #[.int .i64 Q.p, .int .i64 Q.f, .slice B2 Q.ws.length d2, .slice B3 Q.ks.length d3, .slice B4 Q.ac.length d4]), (5, .pointer (some ⟨s.2.2.1, 0, none⟩))] : List (Tmp × Value))) (fun s W => FS w3 W 3 true false s) ?_ (fun J310 => ?_)
  ·
    intro s W hF0
    have hF : Aside0 (FS w3 W 3 true false s) := ⟨hF0⟩
    clear hF0
    refine two_ (i := 5) (j := 7) (Ni := some 18) (Nj := some 6) #[true, true, true, true, true, true, true, false, false, false] #[true, true, true, true, true, false, true, true, false, false] rfl rfl rfl rfl (by kernel_rfl) (by decide) (by decide) ?_ ?_
    · intro K hK
      refine goes_ Tryd.func14 (by kernel_rfl) rfl #[.agg #[.int .i64 Q.p, .int .i64 Q.f, .slice B2 Q.ws.length d2, .slice B3 Q.ks.length d3, .slice B4 Q.ac.length d4]] (by rfl) rfl rfl (by (try simp only [List.map_toArray, List.map_cons, List.map_nil]); first | done | rfl) ?_
      (with_reducible refine (good_any (HXB.out.below (below_step R3.out.2.2 hF.out.bel))).mono ?_)
      intro e w5 hgr
      obtain ⟨v, rfl, hko, hb⟩ := KO.new hgr hF.out.l5 hF.out.l6
      refine ⟨_, rfl, ?_⟩
      have hF2 := hF.out.two hb hko
      refine hK.out _ _ (TS.out _ hF2.bel) (fun hHeld => ?_)
      clear hK K hHeld
      refine norm_ ?_ (J410.out (s.1, v, s.2.2.1, s.2.2.2) _ hF2)
      simp only [putAll, Act.put, List.setIfInBounds_toArray, List.set_cons_zero, List.set_cons_succ]
    · intro K hK
      refine value_ (w1 := ?_) (v := ?_) (by rfl) rfl ?_ ?_
      rotate_left 2
      · go_simp
        constructor
        · rfl
        · rfl
      have hF2 := hF.out.al6
      refine hK.out _ _ (TS.out _ hF2.bel) (fun hHeld => ?_)
      clear hK K hHeld
      refine norm_ ?_ (J311.out (s.1, s.2.1, s.2.2.1, W.heap.size) _ hF2)
      simp only [putAll, Act.put, List.setIfInBounds_toArray, List.set_cons_zero, List.set_cons_succ]
  replace J310 := Aside0.mk J310
  refine join_ 4 #[true, true, true, true, true, false, false, true, false, false] (fun (s : Value × Value × Nat × Nat) => ([(14, .agg #[.int .i64 P.p, .int .i64 P.f, .slice A2 P.ws.length c2, .slice A3 P.ks.length c3, .slice A4 P.ac.length c4]), (15, s.1), (17, .agg #[.int .i64 Q.p, .int .i64 Q.f, .slice B2 Q.ws.length d2, .slice B3 Q.ks.length d3, .slice B4 Q.ac.length d4]), (6, .pointer (some ⟨s.2.2.2, 0, none⟩))] : List (Tmp × Value))) (fun s W => FS w3 W 3 false true s) ?_ (fun J301 => ?_)
  ·
    intro s W hF0
    have hF : Aside0 (FS w3 W 3 false true s) := ⟨hF0⟩
    clear hF0
    refine two_ (i := 5) (j := 6) (Ni := some 18) (Nj := some 5) #[true, true, true, true, true, true, false, true, false, false] #[true, true, true, true, true, false, true, true, false, false] rfl rfl rfl rfl (by kernel_rfl) (by decide) (by decide) ?_ ?_
    · intro K hK
      refine goes_ Tryd.func14 (by kernel_rfl) rfl #[.agg #[.int .i64 Q.p, .int .i64 Q.f, .slice B2 Q.ws.length d2, .slice B3 Q.ks.length d3, .slice B4 Q.ac.length d4]] (by rfl) rfl rfl (by (try simp only [List.map_toArray, List.map_cons, List.map_nil]); first | done | rfl) ?_
      (with_reducible refine (good_any (HXB.out.below (below_step R3.out.2.2 hF.out.bel))).mono ?_)
      intro e w5 hgr
      obtain ⟨v, rfl, hko, hb⟩ := KO.new hgr hF.out.l5 hF.out.l6
      refine ⟨_, rfl, ?_⟩
      have hF2 := hF.out.two hb hko
      refine hK.out _ _ (TS.out _ hF2.bel) (fun hHeld => ?_)
      clear hK K hHeld
      refine norm_ ?_ (J401.out (s.1, v, s.2.2.1, s.2.2.2) _ hF2)
      simp only [putAll, Act.put, List.setIfInBounds_toArray, List.set_cons_zero, List.set_cons_succ]
    · intro K hK
      refine value_ (w1 := ?_) (v := ?_) (by rfl) rfl ?_ ?_
      rotate_left 2
      · go_simp
        constructor
        · rfl
        · rfl
      have hF2 := hF.out.al5
      refine hK.out _ _ (TS.out _ hF2.bel) (fun hHeld => ?_)
      clear hK K hHeld
      refine norm_ ?_ (J311.out (s.1, s.2.1, W.heap.size, s.2.2.2) _ hF2)
      simp only [putAll, Act.put, List.setIfInBounds_toArray, List.set_cons_zero, List.set_cons_succ]
  replace J301 := Aside0.mk J301
  refine join_ 5 #[true, true, true, true, true, false, false, false, false, false] (fun (s : Value × Value × Nat × Nat) => ([(14, .agg #[.int .i64 P.p, .int .i64 P.f, .slice A2 P.ws.length c2, .slice A3 P.ks.length c3, .slice A4 P.ac.length c4]), (15, s.1), (17, .agg #[.int .i64 Q.p, .int .i64 Q.f, .slice B2 Q.ws.length d2, .slice B3 Q.ks.length d3, .slice B4 Q.ac.length d4])] : List (Tmp × Value))) (fun s W => FS w3 W 3 false false s) ?_ (fun J300 => ?_)
  ·
    intro s W hF0
    have hF : Aside0 (FS w3 W 3 false false s) := ⟨hF0⟩
    clear hF0
    refine three_ (i := 5) (j := 6) (k := 7) (Ni := some 18) (Nj := some 5) (Nk := some 6) #[true, true, true, true, true, true, false, false, false, false] #[true, true, true, true, true, false, true, false, false, false] #[true, true, true, true, true, false, false, true, false, false] rfl rfl rfl rfl rfl rfl (by kernel_rfl) (by decide) (by decide) (by decide) ?_ ?_ ?_
    · intro K hK
      refine goes_ Tryd.func14 (by kernel_rfl) rfl #[.agg #[.int .i64 Q.p, .int .i64 Q.f, .slice B2 Q.ws.length d2, .slice B3 Q.ks.length d3, .slice B4 Q.ac.length d4]] (by rfl) rfl rfl (by (try simp only [List.map_toArray, List.map_cons, List.map_nil]); first | done | rfl) ?_
      (with_reducible refine (good_any (HXB.out.below (below_step R3.out.2.2 hF.out.bel))).mono ?_)
      intro e w5 hgr
      obtain ⟨v, rfl, hko, hb⟩ := KO.new hgr hF.out.l5 hF.out.l6
      refine ⟨_, rfl, ?_⟩
      have hF2 := hF.out.two hb hko
      refine hK.out _ _ (TS.out _ hF2.bel) (fun hHeld => ?_)
      clear hK K hHeld
      refine norm_ ?_ (J400.out (s.1, v, s.2.2.1, s.2.2.2) _ hF2)
      simp only [putAll, Act.put, List.setIfInBounds_toArray, List.set_cons_zero, List.set_cons_succ]
    · intro K hK
      refine value_ (w1 := ?_) (v := ?_) (by rfl) rfl ?_ ?_
      rotate_left 2
      · go_simp
        constructor
        · rfl
        · rfl
      have hF2 := hF.out.al5
      refine hK.out _ _ (TS.out _ hF2.bel) (fun hHeld => ?_)
      clear hK K hHeld
      refine norm_ ?_ (J310.out (s.1, s.2.1, W.heap.size, s.2.2.2) _ hF2)
      simp only [putAll, Act.put, List.setIfInBounds_toArray, List.set_cons_zero, List.set_cons_succ]
    · intro K hK
      refine value_ (w1 := ?_) (v := ?_) (by rfl) rfl ?_ ?_
      rotate_left 2
      · go_simp
        constructor
        · rfl
        · rfl
      have hF2 := hF.out.al6
      refine hK.out _ _ (TS.out _ hF2.bel) (fun hHeld => ?_)
      clear hK K hHeld
      refine norm_ ?_ (J301.out (s.1, s.2.1, s.2.2.1, W.heap.size) _ hF2)
      simp only [putAll, Act.put, List.setIfInBounds_toArray, List.set_cons_zero, List.set_cons_succ]
  replace J300 := Aside0.mk J300
  refine join_ 4 #[true, true, true, true, false, false, true, true, false, false] (fun (s : Value × Value × Nat × Nat) => ([(14, .agg #[.int .i64 P.p, .int .i64 P.f, .slice A2 P.ws.length c2, .slice A3 P.ks.length c3, .slice A4 P.ac.length c4]), (15, s.1), (5, .pointer (some ⟨s.2.2.1, 0, none⟩)), (6, .pointer (some ⟨s.2.2.2, 0, none⟩))] : List (Tmp × Value))) (fun s W => FS w3 W 2 true true s) ?_ (fun J211 => ?_)
  ·
    intro s W hF0
    have hF : Aside0 (FS w3 W 2 true true s) := ⟨hF0⟩
    clear hF0
    refine one_ (i := 4) (N := some 17) #[true, true, true, true, true, false, true, true, false, false] rfl rfl (by kernel_rfl) (by decide) ?_
    · intro K hK
      refine goes_ Tryd.func10 (by kernel_rfl) rfl #[.agg #[.int .i64 D.p, .int .i64 D.f, .slice B2 D.ws.length d2, .slice B3 D.ks.length d3, .slice B4 D.ac.length d4]] (by rfl) rfl rfl (by (try simp only [List.map_toArray, List.map_cons, List.map_nil]); first | done | rfl) ?_
      (with_reducible refine (FB.out _ (below_step R3.out.2.2 hF.out.bel)).mono ?_)
      rintro e w5 ⟨rfl, hb⟩
      refine ⟨_, rfl, ?_⟩
      have hF2 : FS w3 w5 3 true true s := (hF.out.step hb).few (by omega) (by omega)
      refine hK.out _ _ (TS.out _ hF2.bel) (fun hHeld => ?_)
      clear hK K hHeld
      refine norm_ ?_ (J311.out s _ hF2)
      simp only [putAll, Act.put, List.setIfInBounds_toArray, List.set_cons_zero, List.set_cons_succ]
  replace J211 := Aside0.mk J211
  refine join_ 5 #[true, true, true, true, false, false, true, false, false, false] (fun (s : Value × Value × Nat × Nat) => ([(14, .agg #[.int .i64 P.p, .int .i64 P.f, .slice A2 P.ws.length c2, .slice A3 P.ks.length c3, .slice A4 P.ac.length c4]), (15, s.1), (5, .pointer (some ⟨s.2.2.1, 0, none⟩))] : List (Tmp × Value))) (fun s W => FS w3 W 2 true false s) ?_ (fun J210 => ?_)
  ·
    intro s W hF0
    have hF : Aside0 (FS w3 W 2 true false s) := ⟨hF0⟩
    clear hF0
    refine two_ (i := 4) (j := 7) (Ni := some 17) (Nj := some 6) #[true, true, true, true, true, false, true, false, false, false] #[true, true, true, true, false, false, true, true, false, false] rfl rfl rfl rfl (by kernel_rfl) (by decide) (by decide) ?_ ?_
    · intro K hK
      refine goes_ Tryd.func10 (by kernel_rfl) rfl #[.agg #[.int .i64 D.p, .int .i64 D.f, .slice B2 D.ws.length d2, .slice B3 D.ks.length d3, .slice B4 D.ac.length d4]] (by rfl) rfl rfl (by (try simp only [List.map_toArray, List.map_cons, List.map_nil]); first | done | rfl) ?_
      (with_reducible refine (FB.out _ (below_step R3.out.2.2 hF.out.bel)).mono ?_)
      rintro e w5 ⟨rfl, hb⟩
      refine ⟨_, rfl, ?_⟩
      have hF2 : FS w3 w5 3 true false s := (hF.out.step hb).few (by omega) (by omega)
      refine hK.out _ _ (TS.out _ hF2.bel) (fun hHeld => ?_)
      clear hK K hHeld
      refine norm_ ?_ (J310.out s _ hF2)
      simp only [putAll, Act.put, List.setIfInBounds_toArray, List.set_cons_zero, List.set_cons_succ]
    · intro K hK
      refine value_ (w1 := ?_) (v := ?_) (by rfl) rfl ?_ ?_
      rotate_left 2
      · go_simp
        constructor
        · rfl
        · rfl
      have hF2 := hF.out.al6
      refine hK.out _ _ (TS.out _ hF2.bel) (fun hHeld => ?_)
      clear hK K hHeld
      refine norm_ ?_ (J211.out (s.1, s.2.1, s.2.2.1, W.heap.size) _ hF2)
      simp only [putAll, Act.put, List.setIfInBounds_toArray, List.set_cons_zero, List.set_cons_succ]
  replace J210 := Aside0.mk J210
  refine join_ 5 #[true, true, true, true, false, false, false, true, false, false] (fun (s : Value × Value × Nat × Nat) => ([(14, .agg #[.int .i64 P.p, .int .i64 P.f, .slice A2 P.ws.length c2, .slice A3 P.ks.length c3, .slice A4 P.ac.length c4]), (15, s.1), (6, .pointer (some ⟨s.2.2.2, 0, none⟩))] : List (Tmp × Value))) (fun s W => FS w3 W 2 false true s) ?_ (fun J201 => ?_)
  ·
    intro s W hF0
    have hF : Aside0 (FS w3 W 2 false true s) := ⟨hF0⟩
    clear hF0
    refine two_ (i := 4) (j := 6) (Ni := some 17) (Nj := some 5) #[true, true, true, true, true, false, false, true, false, false] #[true, true, true, true, false, false, true, true, false, false] rfl rfl rfl rfl (by kernel_rfl) (by decide) (by decide) ?_ ?_
    · intro K hK
      refine goes_ Tryd.func10 (by kernel_rfl) rfl #[.agg #[.int .i64 D.p, .int .i64 D.f, .slice B2 D.ws.length d2, .slice B3 D.ks.length d3, .slice B4 D.ac.length d4]] (by rfl) rfl rfl (by (try simp only [List.map_toArray, List.map_cons, List.map_nil]); first | done | rfl) ?_
      (with_reducible refine (FB.out _ (below_step R3.out.2.2 hF.out.bel)).mono ?_)
      rintro e w5 ⟨rfl, hb⟩
      refine ⟨_, rfl, ?_⟩
      have hF2 : FS w3 w5 3 false true s := (hF.out.step hb).few (by omega) (by omega)
      refine hK.out _ _ (TS.out _ hF2.bel) (fun hHeld => ?_)
      clear hK K hHeld
      refine norm_ ?_ (J301.out s _ hF2)
      simp only [putAll, Act.put, List.setIfInBounds_toArray, List.set_cons_zero, List.set_cons_succ]
    · intro K hK
      refine value_ (w1 := ?_) (v := ?_) (by rfl) rfl ?_ ?_
      rotate_left 2
      · go_simp
        constructor
        · rfl
        · rfl
      have hF2 := hF.out.al5
      refine hK.out _ _ (TS.out _ hF2.bel) (fun hHeld => ?_)
      clear hK K hHeld
      refine norm_ ?_ (J211.out (s.1, s.2.1, W.heap.size, s.2.2.2) _ hF2)
      simp only [putAll, Act.put, List.setIfInBounds_toArray, List.set_cons_zero, List.set_cons_succ]
  replace J201 := Aside0.mk J201
  refine join_ 6 #[true, true, true, true, false, false, false, false, false, false] (fun (s : Value × Value × Nat × Nat) => ([(14, .agg #[.int .i64 P.p, .int .i64 P.f, .slice A2 P.ws.length c2, .slice A3 P.ks.length c3, .slice A4 P.ac.length c4]), (15, s.1)] : List (Tmp × Value))) (fun s W => FS w3 W 2 false false s) ?_ (fun J200 => ?_)
  ·
    intro s W hF0
    have hF : Aside0 (FS w3 W 2 false false s) := ⟨hF0⟩
    clear hF0
    refine three_ (i := 4) (j := 6) (k := 7) (Ni := some 17) (Nj := some 5) (Nk := some 6) #[true, true, true, true, true, false, false, false, false, false] #[true, true, true, true, false, false, true, false, false, false] #[true, true, true, true, false, false, false, true, false, false] rfl rfl rfl rfl rfl rfl (by kernel_rfl) (by decide) (by decide) (by decide) ?_ ?_ ?_
    · intro K hK
      refine goes_ Tryd.func10 (by kernel_rfl) rfl #[.agg #[.int .i64 D.p, .int .i64 D.f, .slice B2 D.ws.length d2, .slice B3 D.ks.length d3, .slice B4 D.ac.length d4]] (by rfl) rfl rfl (by (try simp only [List.map_toArray, List.map_cons, List.map_nil]); first | done | rfl) ?_
      (with_reducible refine (FB.out _ (below_step R3.out.2.2 hF.out.bel)).mono ?_)
      rintro e w5 ⟨rfl, hb⟩
      refine ⟨_, rfl, ?_⟩
      have hF2 : FS w3 w5 3 false false s := (hF.out.step hb).few (by omega) (by omega)
      refine hK.out _ _ (TS.out _ hF2.bel) (fun hHeld => ?_)
      clear hK K hHeld
      refine norm_ ?_ (J300.out s _ hF2)
      simp only [putAll, Act.put, List.setIfInBounds_toArray, List.set_cons_zero, List.set_cons_succ]
    · intro K hK
      refine value_ (w1 := ?_) (v := ?_) (by rfl) rfl ?_ ?_
      rotate_left 2
      · go_simp
        constructor
        · rfl
        · rfl
      have hF2 := hF.out.al5
      refine hK.out _ _ (TS.out _ hF2.bel) (fun hHeld => ?_)
      clear hK K hHeld
      refine norm_ ?_ (J210.out (s.1, s.2.1, W.heap.size, s.2.2.2) _ hF2)
      simp only [putAll, Act.put, List.setIfInBounds_toArray, List.set_cons_zero, List.set_cons_succ]
    · intro K hK
      refine value_ (w1 := ?_) (v := ?_) (by rfl) rfl ?_ ?_
      rotate_left 2
      · go_simp
        constructor
        · rfl
        · rfl
      have hF2 := hF.out.al6
      refine hK.out _ _ (TS.out _ hF2.bel) (fun hHeld => ?_)
      clear hK K hHeld
      refine norm_ ?_ (J201.out (s.1, s.2.1, s.2.2.1, W.heap.size) _ hF2)
      simp only [putAll, Act.put, List.setIfInBounds_toArray, List.set_cons_zero, List.set_cons_succ]
  replace J200 := Aside0.mk J200
  refine join_ 5 #[true, true, false, true, false, false, true, true, false, false] (fun (s : Value × Value × Nat × Nat) => ([(14, .agg #[.int .i64 P.p, .int .i64 P.f, .slice A2 P.ws.length c2, .slice A3 P.ks.length c3, .slice A4 P.ac.length c4]), (5, .pointer (some ⟨s.2.2.1, 0, none⟩)), (6, .pointer (some ⟨s.2.2.2, 0, none⟩))] : List (Tmp × Value))) (fun s W => FS w3 W 1 true true s) ?_ (fun J111 => ?_)
  ·
    intro s W hF0
    have hF : Aside0 (FS w3 W 1 true true s) := ⟨hF0⟩
    clear hF0
    refine one_ (i := 2) (N := some 15) #[true, true, true, true, false, false, true, true, false, false] rfl rfl (by kernel_rfl) (by decide) ?_
    · intro K hK
      refine goes_ Tryd.func14 (by kernel_rfl) rfl #[.agg #[.int .i64 P.p, .int .i64 P.f, .slice A2 P.ws.length c2, .slice A3 P.ks.length c3, .slice A4 P.ac.length c4]] (by rfl) rfl rfl (by (try simp only [List.map_toArray, List.map_cons, List.map_nil]); first | done | rfl) ?_
      (with_reducible refine (good_any (HXA.out.below (below_step R3.out.2.2 hF.out.bel))).mono ?_)
      intro e w5 hgr
      obtain ⟨v, rfl, hko, hb⟩ := KO.new hgr hF.out.l5 hF.out.l6
      refine ⟨_, rfl, ?_⟩
      have hF2 := hF.out.one hb hko
      refine hK.out _ _ (TS.out _ hF2.bel) (fun hHeld => ?_)
      clear hK K hHeld
      refine norm_ ?_ (J211.out (v, s.2.1, s.2.2.1, s.2.2.2) _ hF2)
      simp only [putAll, Act.put, List.setIfInBounds_toArray, List.set_cons_zero, List.set_cons_succ]
  replace J111 := Aside0.mk J111
  refine join_ 6 #[true, true, false, true, false, false, true, false, false, false] (fun (s : Value × Value × Nat × Nat) => ([(14, .agg #[.int .i64 P.p, .int .i64 P.f, .slice A2 P.ws.length c2, .slice A3 P.ks.length c3, .slice A4 P.ac.length c4]), (5, .pointer (some ⟨s.2.2.1, 0, none⟩))] : List (Tmp × Value))) (fun s W => FS w3 W 1 true false s) ?_ (fun J110 => ?_)
  ·
    intro s W hF0
    have hF : Aside0 (FS w3 W 1 true false s) := ⟨hF0⟩
    clear hF0
    refine two_ (i := 2) (j := 7) (Ni := some 15) (Nj := some 6) #[true, true, true, true, false, false, true, false, false, false] #[true, true, false, true, false, false, true, true, false, false] rfl rfl rfl rfl (by kernel_rfl) (by decide) (by decide) ?_ ?_
    · intro K hK
      refine goes_ Tryd.func14 (by kernel_rfl) rfl #[.agg #[.int .i64 P.p, .int .i64 P.f, .slice A2 P.ws.length c2, .slice A3 P.ks.length c3, .slice A4 P.ac.length c4]] (by rfl) rfl rfl (by (try simp only [List.map_toArray, List.map_cons, List.map_nil]); first | done | rfl) ?_
      (with_reducible refine (good_any (HXA.out.below (below_step R3.out.2.2 hF.out.bel))).mono ?_)
      intro e w5 hgr
      obtain ⟨v, rfl, hko, hb⟩ := KO.new hgr hF.out.l5 hF.out.l6
      refine ⟨_, rfl, ?_⟩
      have hF2 := hF.out.one hb hko
      refine hK.out _ _ (TS.out _ hF2.bel) (fun hHeld => ?_)
      clear hK K hHeld
      refine norm_ ?_ (J210.out (v, s.2.1, s.2.2.1, s.2.2.2) _ hF2)
      simp only [putAll, Act.put, List.setIfInBounds_toArray, List.set_cons_zero, List.set_cons_succ]
    · intro K hK
      refine value_ (w1 := ?_) (v := ?_) (by rfl) rfl ?_ ?_
      rotate_left 2
      · go_simp
        constructor
        · rfl
        · rfl
      have hF2 := hF.out.al6
      refine hK.out _ _ (TS.out _ hF2.bel) (fun hHeld => ?_)
      clear hK K hHeld
      refine norm_ ?_ (J111.out (s.1, s.2.1, s.2.2.1, W.heap.size) _ hF2)
      simp only [putAll, Act.put, List.setIfInBounds_toArray, List.set_cons_zero, List.set_cons_succ]
  replace J110 := Aside0.mk J110
  refine join_ 6 #[true, true, false, true, false, false, false, true, false, false] (fun (s : Value × Value × Nat × Nat) => ([(14, .agg #[.int .i64 P.p, .int .i64 P.f, .slice A2 P.ws.length c2, .slice A3 P.ks.length c3, .slice A4 P.ac.length c4]), (6, .pointer (some ⟨s.2.2.2, 0, none⟩))] : List (Tmp × Value))) (fun s W => FS w3 W 1 false true s) ?_ (fun J101 => ?_)
  ·
    intro s W hF0
    have hF : Aside0 (FS w3 W 1 false true s) := ⟨hF0⟩
    clear hF0
    refine two_ (i := 2) (j := 6) (Ni := some 15) (Nj := some 5) #[true, true, true, true, false, false, false, true, false, false] #[true, true, false, true, false, false, true, true, false, false] rfl rfl rfl rfl (by kernel_rfl) (by decide) (by decide) ?_ ?_
    · intro K hK
      refine goes_ Tryd.func14 (by kernel_rfl) rfl #[.agg #[.int .i64 P.p, .int .i64 P.f, .slice A2 P.ws.length c2, .slice A3 P.ks.length c3, .slice A4 P.ac.length c4]] (by rfl) rfl rfl (by (try simp only [List.map_toArray, List.map_cons, List.map_nil]); first | done | rfl) ?_
      (with_reducible refine (good_any (HXA.out.below (below_step R3.out.2.2 hF.out.bel))).mono ?_)
      intro e w5 hgr
      obtain ⟨v, rfl, hko, hb⟩ := KO.new hgr hF.out.l5 hF.out.l6
      refine ⟨_, rfl, ?_⟩
      have hF2 := hF.out.one hb hko
      refine hK.out _ _ (TS.out _ hF2.bel) (fun hHeld => ?_)
      clear hK K hHeld
      refine norm_ ?_ (J201.out (v, s.2.1, s.2.2.1, s.2.2.2) _ hF2)
      simp only [putAll, Act.put, List.setIfInBounds_toArray, List.set_cons_zero, List.set_cons_succ]
    · intro K hK
      refine value_ (w1 := ?_) (v := ?_) (by rfl) rfl ?_ ?_
      rotate_left 2
      · go_simp
        constructor
        · rfl
        · rfl
      have hF2 := hF.out.al5
      refine hK.out _ _ (TS.out _ hF2.bel) (fun hHeld => ?_)
      clear hK K hHeld
      refine norm_ ?_ (J111.out (s.1, s.2.1, W.heap.size, s.2.2.2) _ hF2)
      simp only [putAll, Act.put, List.setIfInBounds_toArray, List.set_cons_zero, List.set_cons_succ]
  replace J101 := Aside0.mk J101
  refine join_ 7 #[true, true, false, true, false, false, false, false, false, false] (fun (s : Value × Value × Nat × Nat) => ([(14, .agg #[.int .i64 P.p, .int .i64 P.f, .slice A2 P.ws.length c2, .slice A3 P.ks.length c3, .slice A4 P.ac.length c4])] : List (Tmp × Value))) (fun s W => FS w3 W 1 false false s) ?_ (fun J100 => ?_)
  ·
    intro s W hF0
    have hF : Aside0 (FS w3 W 1 false false s) := ⟨hF0⟩
    clear hF0
    refine three_ (i := 2) (j := 6) (k := 7) (Ni := some 15) (Nj := some 5) (Nk := some 6) #[true, true, true, true, false, false, false, false, false, false] #[true, true, false, true, false, false, true, false, false, false] #[true, true, false, true, false, false, false, true, false, false] rfl rfl rfl rfl rfl rfl (by kernel_rfl) (by decide) (by decide) (by decide) ?_ ?_ ?_
    · intro K hK
      refine goes_ Tryd.func14 (by kernel_rfl) rfl #[.agg #[.int .i64 P.p, .int .i64 P.f, .slice A2 P.ws.length c2, .slice A3 P.ks.length c3, .slice A4 P.ac.length c4]] (by rfl) rfl rfl (by (try simp only [List.map_toArray, List.map_cons, List.map_nil]); first | done | rfl) ?_
      (with_reducible refine (good_any (HXA.out.below (below_step R3.out.2.2 hF.out.bel))).mono ?_)
      intro e w5 hgr
      obtain ⟨v, rfl, hko, hb⟩ := KO.new hgr hF.out.l5 hF.out.l6
      refine ⟨_, rfl, ?_⟩
      have hF2 := hF.out.one hb hko
      refine hK.out _ _ (TS.out _ hF2.bel) (fun hHeld => ?_)
      clear hK K hHeld
      refine norm_ ?_ (J200.out (v, s.2.1, s.2.2.1, s.2.2.2) _ hF2)
      simp only [putAll, Act.put, List.setIfInBounds_toArray, List.set_cons_zero, List.set_cons_succ]
    · intro K hK
      refine value_ (w1 := ?_) (v := ?_) (by rfl) rfl ?_ ?_
      rotate_left 2
      · go_simp
        constructor
        · rfl
        · rfl
      have hF2 := hF.out.al5
      refine hK.out _ _ (TS.out _ hF2.bel) (fun hHeld => ?_)
      clear hK K hHeld
      refine norm_ ?_ (J110.out (s.1, s.2.1, W.heap.size, s.2.2.2) _ hF2)
      simp only [putAll, Act.put, List.setIfInBounds_toArray, List.set_cons_zero, List.set_cons_succ]
    · intro K hK
      refine value_ (w1 := ?_) (v := ?_) (by rfl) rfl ?_ ?_
      rotate_left 2
      · go_simp
        constructor
        · rfl
        · rfl
      have hF2 := hF.out.al6
      refine hK.out _ _ (TS.out _ hF2.bel) (fun hHeld => ?_)
      clear hK K hHeld
      refine norm_ ?_ (J101.out (s.1, s.2.1, s.2.2.1, W.heap.size) _ hF2)
      simp only [putAll, Act.put, List.setIfInBounds_toArray, List.set_cons_zero, List.set_cons_succ]
  replace J100 := Aside0.mk J100
  refine join_ 6 #[true, false, false, true, false, false, true, true, false, false] (fun (s : Value × Value × Nat × Nat) => ([(5, .pointer (some ⟨s.2.2.1, 0, none⟩)), (6, .pointer (some ⟨s.2.2.2, 0, none⟩))] : List (Tmp × Value))) (fun s W => FS w3 W 0 true true s) ?_ (fun J011 => ?_)
  ·
    intro s W hF0
    have hF : Aside0 (FS w3 W 0 true true s) := ⟨hF0⟩
    clear hF0
    refine one_ (i := 1) (N := some 14) #[true, true, false, true, false, false, true, true, false, false] rfl rfl (by kernel_rfl) (by decide) ?_
    · intro K hK
      refine goes_ Tryd.func10 (by kernel_rfl) rfl #[.agg #[.int .i64 C.p, .int .i64 C.f, .slice A2 C.ws.length c2, .slice A3 C.ks.length c3, .slice A4 C.ac.length c4]] (by rfl) rfl rfl (by (try simp only [List.map_toArray, List.map_cons, List.map_nil]); first | done | rfl) ?_
      (with_reducible refine (FA.out _ (below_step R3.out.2.2 hF.out.bel)).mono ?_)
      rintro e w5 ⟨rfl, hb⟩
      refine ⟨_, rfl, ?_⟩
      have hF2 : FS w3 w5 1 true true s := (hF.out.step hb).few (by omega) (by omega)
      refine hK.out _ _ (TS.out _ hF2.bel) (fun hHeld => ?_)
      clear hK K hHeld
      refine norm_ ?_ (J111.out s _ hF2)
      simp only [putAll, Act.put, List.setIfInBounds_toArray, List.set_cons_zero, List.set_cons_succ]
  replace J011 := Aside0.mk J011
  refine join_ 7 #[true, false, false, true, false, false, true, false, false, false] (fun (s : Value × Value × Nat × Nat) => ([(5, .pointer (some ⟨s.2.2.1, 0, none⟩))] : List (Tmp × Value))) (fun s W => FS w3 W 0 true false s) ?_ (fun J010 => ?_)
  ·
    intro s W hF0
    have hF : Aside0 (FS w3 W 0 true false s) := ⟨hF0⟩
    clear hF0
    refine two_ (i := 1) (j := 7) (Ni := some 14) (Nj := some 6) #[true, true, false, true, false, false, true, false, false, false] #[true, false, false, true, false, false, true, true, false, false] rfl rfl rfl rfl (by kernel_rfl) (by decide) (by decide) ?_ ?_
    · intro K hK
      refine goes_ Tryd.func10 (by kernel_rfl) rfl #[.agg #[.int .i64 C.p, .int .i64 C.f, .slice A2 C.ws.length c2, .slice A3 C.ks.length c3, .slice A4 C.ac.length c4]] (by rfl) rfl rfl (by (try simp only [List.map_toArray, List.map_cons, List.map_nil]); first | done | rfl) ?_
      (with_reducible refine (FA.out _ (below_step R3.out.2.2 hF.out.bel)).mono ?_)
      rintro e w5 ⟨rfl, hb⟩
      refine ⟨_, rfl, ?_⟩
      have hF2 : FS w3 w5 1 true false s := (hF.out.step hb).few (by omega) (by omega)
      refine hK.out _ _ (TS.out _ hF2.bel) (fun hHeld => ?_)
      clear hK K hHeld
      refine norm_ ?_ (J110.out s _ hF2)
      simp only [putAll, Act.put, List.setIfInBounds_toArray, List.set_cons_zero, List.set_cons_succ]
    · intro K hK
      refine value_ (w1 := ?_) (v := ?_) (by rfl) rfl ?_ ?_
      rotate_left 2
      · go_simp
        constructor
        · rfl
        · rfl
      have hF2 := hF.out.al6
      refine hK.out _ _ (TS.out _ hF2.bel) (fun hHeld => ?_)
      clear hK K hHeld
      refine norm_ ?_ (J011.out (s.1, s.2.1, s.2.2.1, W.heap.size) _ hF2)
      simp only [putAll, Act.put, List.setIfInBounds_toArray, List.set_cons_zero, List.set_cons_succ]
  replace J010 := Aside0.mk J010
  refine join_ 7 #[true, false, false, true, false, false, false, true, false, false] (fun (s : Value × Value × Nat × Nat) => ([(6, .pointer (some ⟨s.2.2.2, 0, none⟩))] : List (Tmp × Value))) (fun s W => FS w3 W 0 false true s) ?_ (fun J001 => ?_)
  ·
    intro s W hF0
    have hF : Aside0 (FS w3 W 0 false true s) := ⟨hF0⟩
    clear hF0
    refine two_ (i := 1) (j := 6) (Ni := some 14) (Nj := some 5) #[true, true, false, true, false, false, false, true, false, false] #[true, false, false, true, false, false, true, true, false, false] rfl rfl rfl rfl (by kernel_rfl) (by decide) (by decide) ?_ ?_
    · intro K hK
      refine goes_ Tryd.func10 (by kernel_rfl) rfl #[.agg #[.int .i64 C.p, .int .i64 C.f, .slice A2 C.ws.length c2, .slice A3 C.ks.length c3, .slice A4 C.ac.length c4]] (by rfl) rfl rfl (by (try simp only [List.map_toArray, List.map_cons, List.map_nil]); first | done | rfl) ?_
      (with_reducible refine (FA.out _ (below_step R3.out.2.2 hF.out.bel)).mono ?_)
      rintro e w5 ⟨rfl, hb⟩
      refine ⟨_, rfl, ?_⟩
      have hF2 : FS w3 w5 1 false true s := (hF.out.step hb).few (by omega) (by omega)
      refine hK.out _ _ (TS.out _ hF2.bel) (fun hHeld => ?_)
      clear hK K hHeld
      refine norm_ ?_ (J101.out s _ hF2)
      simp only [putAll, Act.put, List.setIfInBounds_toArray, List.set_cons_zero, List.set_cons_succ]
    · intro K hK
      refine value_ (w1 := ?_) (v := ?_) (by rfl) rfl ?_ ?_
      rotate_left 2
      · go_simp
        constructor
        · rfl
        · rfl
      have hF2 := hF.out.al5
      refine hK.out _ _ (TS.out _ hF2.bel) (fun hHeld => ?_)
      clear hK K hHeld
      refine norm_ ?_ (J011.out (s.1, s.2.1, W.heap.size, s.2.2.2) _ hF2)
      simp only [putAll, Act.put, List.setIfInBounds_toArray, List.set_cons_zero, List.set_cons_succ]
  replace J001 := Aside0.mk J001
  have hlw := blk_lt R3.out.1
  have hF : Aside0 (FS w3 w3.drew 0 false false (undef, undef, w.heap.size, w.heap.size)) := ⟨⟨below_drew (Below.refl _ _), hlw, hlw, fun e => (by cases e), fun e => (by cases e), fun e => (by cases e), fun e => absurd e (by decide), fun e => absurd e (by decide)⟩⟩
  clear hlw
  obtain ⟨s, hs⟩ : ∃ s : Value × Value × Nat × Nat, (undef, undef, w.heap.size, w.heap.size) = s := ⟨_, rfl⟩
  rw [hs] at hF
  clear hs
  generalize w3.drew = W at hF ⊢
  refine three_ (i := 1) (j := 6) (k := 7) (Ni := some 14) (Nj := some 5) (Nk := some 6) #[true, true, false, true, false, false, false, false, false, false] #[true, false, false, true, false, false, true, false, false, false] #[true, false, false, true, false, false, false, true, false, false] rfl rfl rfl rfl rfl rfl (by kernel_rfl) (by decide) (by decide) (by decide) ?_ ?_ ?_
  · intro K hK
    refine goes_ Tryd.func10 (by kernel_rfl) rfl #[.agg #[.int .i64 C.p, .int .i64 C.f, .slice A2 C.ws.length c2, .slice A3 C.ks.length c3, .slice A4 C.ac.length c4]] (by rfl) rfl rfl (by (try simp only [List.map_toArray, List.map_cons, List.map_nil]); first | done | rfl) ?_
    (with_reducible refine (FA.out _ (below_step R3.out.2.2 hF.out.bel)).mono ?_)
    rintro e w5 ⟨rfl, hb⟩
    refine ⟨_, rfl, ?_⟩
    have hF2 : FS w3 w5 1 false false s := (hF.out.step hb).few (by omega) (by omega)
    refine hK.out _ _ (TS.out _ hF2.bel) (fun hHeld => ?_)
    clear hK K hHeld
    refine norm_ ?_ (J100.out s _ hF2)
    simp only [putAll, Act.put, List.setIfInBounds_toArray, List.set_cons_zero, List.set_cons_succ]
  · intro K hK
    refine value_ (w1 := ?_) (v := ?_) (by rfl) rfl ?_ ?_
    rotate_left 2
    · go_simp
      constructor
      · rfl
      · rfl
    have hF2 := hF.out.al5
    refine hK.out _ _ (TS.out _ hF2.bel) (fun hHeld => ?_)
    clear hK K hHeld
    refine norm_ ?_ (J010.out (s.1, s.2.1, W.heap.size, s.2.2.2) _ hF2)
    simp only [putAll, Act.put, List.setIfInBounds_toArray, List.set_cons_zero, List.set_cons_succ]
  · intro K hK
    refine value_ (w1 := ?_) (v := ?_) (by rfl) rfl ?_ ?_
    rotate_left 2
    · go_simp
      constructor
      · rfl
      · rfl
    have hF2 := hF.out.al6
    refine hK.out _ _ (TS.out _ hF2.bel) (fun hHeld => ?_)
    clear hK K hHeld
    refine norm_ ?_ (J001.out (s.1, s.2.1, s.2.2.1, W.heap.size) _ hF2)
    simp only [putAll, Act.put, List.setIfInBounds_toArray, List.set_cons_zero, List.set_cons_succ]
  case last =>
    intro s W hF0
    have hF : Aside0 (FS w3 W 4 true true s) := ⟨hF0⟩
    clear hF0
    obtain ⟨v15, v18, q5, q6⟩ := s
    have hF' := hF.out
    obtain ⟨G, X2, x2, X3, x3, X4, x4, hG, e15, hmG⟩ := hF'.k15 (by decide)
    obtain ⟨H, Y2, y2, Y3, y3, Y4, y4, hH, e18, hmH⟩ := hF'.k18 (by decide)
    simp only [] at e15 e18 hmG hmH
    subst e15 e18
    have R5 : Aside0 (Below w3.heap.size w3 W ∧ W.heap[q5]? = some (.cells #[.int .i64 0, .int .i64 0, .slice none 0 0, .slice none 0 0, .slice none 0 0] 26 (0, 0)) ∧ W.heap[q6]? = some (.cells #[.int .i64 0, .int .i64 0, .slice none 0 0, .slice none 0 0, .slice none 0 0] 26 (0, 0)) ∧ w3.heap.size ≤ q5 ∧ w3.heap.size ≤ q6 ∧ q5 ≠ q6) := ⟨⟨hF'.bel, (hF'.z5 rfl).1, (hF'.z6 rfl).1, (hF'.z5 rfl).2, (hF'.z6 rfl).2, hF'.ne rfl rfl⟩⟩
    have MG := Aside0.mk hmG
    have MH := Aside0.mk hmH
    have GG := Aside0.mk hG
    have GH := Aside0.mk hH
    clear hF hF' hmG hmH hG hH
    refine norm_ (a' := ?_) ?_ ?_
    rotate_left
    · simp only [putAll, Act.put, List.setIfInBounds_toArray, List.set_cons_zero, List.set_cons_succ]
      rfl
    have s0 := (blk_cell R5.out.2.1 0).trans (show _ = some (.int .i64 0) from rfl)
    have s1 := (blk_cell R5.out.2.1 1).trans (show _ = some (.int .i64 0) from rfl)
    have s2 := (blk_cell R5.out.2.1 2).trans (show _ = some (.slice none 0 0) from rfl)
    have s3 := (blk_cell R5.out.2.1 3).trans (show _ = some (.slice none 0 0) from rfl)
    have s4 := (blk_cell R5.out.2.1 4).trans (show _ = some (.slice none 0 0) from rfl)
    have sf0 := blk_frozen R5.out.2.1 0
    have sf1 := blk_frozen R5.out.2.1 1
    have sf2 := blk_frozen R5.out.2.1 2
    have sf3 := blk_frozen R5.out.2.1 3
    have sf4 := blk_frozen R5.out.2.1 4
    refine last_ (i := 8) (N := none) #[true, true, true, true, true, true, true, true, true, false] rfl rfl (by kernel_rfl) (by decide) (fun K hK => ?_)
    refine skip_ (w1 := ?_) (by rfl) rfl ?_ ?_
    rotate_left
    · go_simp
      rfl
    refine hK.out _ _ ?_
    clear hK K
    have R6 : Aside0 ((((((W.setCell ⟨q5, 0, none⟩ (.int .i64 G.p)).setCell ⟨q5, 1, none⟩ (.int .i64 G.f)).setCell ⟨q5, 2, none⟩ (.slice X2 G.ws.length x2)).setCell ⟨q5, 3, none⟩ (.slice X3 G.ks.length x3)).setCell ⟨q5, 4, none⟩ (.slice X4 G.ac.length x4)).heap[q5]? = some (.cells #[.int .i64 G.p, .int .i64 G.f, .slice X2 G.ws.length x2, .slice X3 G.ks.length x3, .slice X4 G.ac.length x4] 26 (0, 0)) ∧ (((((W.setCell ⟨q5, 0, none⟩ (.int .i64 G.p)).setCell ⟨q5, 1, none⟩ (.int .i64 G.f)).setCell ⟨q5, 2, none⟩ (.slice X2 G.ws.length x2)).setCell ⟨q5, 3, none⟩ (.slice X3 G.ks.length x3)).setCell ⟨q5, 4, none⟩ (.slice X4 G.ac.length x4)).heap[q6]? = some (.cells #[.int .i64 0, .int .i64 0, .slice none 0 0, .slice none 0 0, .slice none 0 0] 26 (0, 0)) ∧ Below w3.heap.size w3 (((((W.setCell ⟨q5, 0, none⟩ (.int .i64 G.p)).setCell ⟨q5, 1, none⟩ (.int .i64 G.f)).setCell ⟨q5, 2, none⟩ (.slice X2 G.ws.length x2)).setCell ⟨q5, 3, none⟩ (.slice X3 G.ks.length x3)).setCell ⟨q5, 4, none⟩ (.slice X4 G.ac.length x4)) ∧ ∀ b, b ≠ q5 → (((((W.setCell ⟨q5, 0, none⟩ (.int .i64 G.p)).setCell ⟨q5, 1, none⟩ (.int .i64 G.f)).setCell ⟨q5, 2, none⟩ (.slice X2 G.ws.length x2)).setCell ⟨q5, 3, none⟩ (.slice X3 G.ks.length x3)).setCell ⟨q5, 4, none⟩ (.slice X4 G.ac.length x4)).heap[b]? = W.heap[b]?) := ⟨⟨put5 R5.out.2.1, (off5 (fun e => R5.out.2.2.2.2.2 e.symm)).trans R5.out.2.2.1, bel5 R5.out.1 R5.out.2.2.2.1, fun b hb => off5 hb⟩⟩
    clear s0 s1 s2 s3 s4 sf0 sf1 sf2 sf3 sf4
    generalize (((((W.setCell ⟨q5, 0, none⟩ (.int .i64 G.p)).setCell ⟨q5, 1, none⟩ (.int .i64 G.f)).setCell ⟨q5, 2, none⟩ (.slice X2 G.ws.length x2)).setCell ⟨q5, 3, none⟩ (.slice X3 G.ks.length x3)).setCell ⟨q5, 4, none⟩ (.slice X4 G.ac.length x4)) = W1 at R6 ⊢
    have s0 := (blk_cell R6.out.2.1 0).trans (show _ = some (.int .i64 0) from rfl)
    have s1 := (blk_cell R6.out.2.1 1).trans (show _ = some (.int .i64 0) from rfl)
    have s2 := (blk_cell R6.out.2.1 2).trans (show _ = some (.slice none 0 0) from rfl)
    have s3 := (blk_cell R6.out.2.1 3).trans (show _ = some (.slice none 0 0) from rfl)
    have s4 := (blk_cell R6.out.2.1 4).trans (show _ = some (.slice none 0 0) from rfl)
    have sf0 := blk_frozen R6.out.2.1 0
    have sf1 := blk_frozen R6.out.2.1 1
    have sf2 := blk_frozen R6.out.2.1 2
    have sf3 := blk_frozen R6.out.2.1 3
    have sf4 := blk_frozen R6.out.2.1 4
    refine last_ (i := 9) (N := none) #[true, true, true, true, true, true, true, true, true, true] rfl rfl (by kernel_rfl) (by decide) (fun K hK => ?_)
    refine skip_ (w1 := ?_) (by rfl) rfl ?_ ?_
    rotate_left
    · go_simp
      rfl
    refine hK.out _ _ ?_
    clear hK K
    have R7 : Aside0 ((((((W1.setCell ⟨q6, 0, none⟩ (.int .i64 H.p)).setCell ⟨q6, 1, none⟩ (.int .i64 H.f)).setCell ⟨q6, 2, none⟩ (.slice Y2 H.ws.length y2)).setCell ⟨q6, 3, none⟩ (.slice Y3 H.ks.length y3)).setCell ⟨q6, 4, none⟩ (.slice Y4 H.ac.length y4)).heap[q5]? = some (.cells #[.int .i64 G.p, .int .i64 G.f, .slice X2 G.ws.length x2, .slice X3 G.ks.length x3, .slice X4 G.ac.length x4] 26 (0, 0)) ∧ (((((W1.setCell ⟨q6, 0, none⟩ (.int .i64 H.p)).setCell ⟨q6, 1, none⟩ (.int .i64 H.f)).setCell ⟨q6, 2, none⟩ (.slice Y2 H.ws.length y2)).setCell ⟨q6, 3, none⟩ (.slice Y3 H.ks.length y3)).setCell ⟨q6, 4, none⟩ (.slice Y4 H.ac.length y4)).heap[q6]? = some (.cells #[.int .i64 H.p, .int .i64 H.f, .slice Y2 H.ws.length y2, .slice Y3 H.ks.length y3, .slice Y4 H.ac.length y4] 26 (0, 0)) ∧ Below w3.heap.size w3 (((((W1.setCell ⟨q6, 0, none⟩ (.int .i64 H.p)).setCell ⟨q6, 1, none⟩ (.int .i64 H.f)).setCell ⟨q6, 2, none⟩ (.slice Y2 H.ws.length y2)).setCell ⟨q6, 3, none⟩ (.slice Y3 H.ks.length y3)).setCell ⟨q6, 4, none⟩ (.slice Y4 H.ac.length y4)) ∧ CX (((((W1.setCell ⟨q6, 0, none⟩ (.int .i64 H.p)).setCell ⟨q6, 1, none⟩ (.int .i64 H.f)).setCell ⟨q6, 2, none⟩ (.slice Y2 H.ws.length y2)).setCell ⟨q6, 3, none⟩ (.slice Y3 H.ks.length y3)).setCell ⟨q6, 4, none⟩ (.slice Y4 H.ac.length y4)) G X2 x2 X3 x3 X4 x4 ∧ CX (((((W1.setCell ⟨q6, 0, none⟩ (.int .i64 H.p)).setCell ⟨q6, 1, none⟩ (.int .i64 H.f)).setCell ⟨q6, 2, none⟩ (.slice Y2 H.ws.length y2)).setCell ⟨q6, 3, none⟩ (.slice Y3 H.ks.length y3)).setCell ⟨q6, 4, none⟩ (.slice Y4 H.ac.length y4)) H Y2 y2 Y3 y3 Y4 y4) := ⟨⟨(off5 R5.out.2.2.2.2.2).trans R6.out.1, put5 R6.out.2.1, bel5 R6.out.2.2.1 R5.out.2.2.2.2.1, MG.out _ (fun b _ h5 h6 => (off5 h6).trans (R6.out.2.2.2 b h5)), MH.out _ (fun b _ h5 h6 => (off5 h6).trans (R6.out.2.2.2 b h5))⟩⟩
    clear s0 s1 s2 s3 s4 sf0 sf1 sf2 sf3 sf4 R5 R6 MG MH
    generalize (((((W1.setCell ⟨q6, 0, none⟩ (.int .i64 H.p)).setCell ⟨q6, 1, none⟩ (.int .i64 H.f)).setCell ⟨q6, 2, none⟩ (.slice Y2 H.ws.length y2)).setCell ⟨q6, 3, none⟩ (.slice Y3 H.ks.length y3)).setCell ⟨q6, 4, none⟩ (.slice Y4 H.ac.length y4)) = W2 at R7 ⊢
    refine done_ (by kernel_rfl) ?_
    have gG := good_ok GG.out
    have gH := good_ok GH.out
    obtain ⟨a1, a2, a3⟩ := good_le GG.out
    obtain ⟨b1, b2, b3⟩ := good_le GH.out
    have HLW := Aside0.mk (HG.out.below (below_step R3.out.2.2 R7.out.2.2.1))
    have hcG : (chk G).e = 0 := beq_iff_eq.1 gG
    have hcH : (chk H).e = 0 := beq_iff_eq.1 gH
    have EG : Aside0 (∀ W, Below W2.heap.size W2 W → Calls Tryd.prog 11 #[.agg #[.int .i64 G.p, .int .i64 G.f, .slice X2 G.ws.length x2, .slice X3 G.ks.length x3, .slice X4 G.ac.length x4]] W fun e w' => ∃ r, e = .returned (.tuple #[r, .int .i64 0]) ∧ Wi.OI .u8 5 W w' r (encB G)) := ⟨fun W hb => by
      have h := encode_any (R7.out.2.2.2.1.below hb) (HLW.out.below hb) a1 a2 a3
      rw [hcG] at h
      exact h⟩
    have EH : Aside0 (∀ W, Below W2.heap.size W2 W → Calls Tryd.prog 11 #[.agg #[.int .i64 H.p, .int .i64 H.f, .slice Y2 H.ws.length y2, .slice Y3 H.ks.length y3, .slice Y4 H.ac.length y4]] W fun e w' => ∃ r, e = .returned (.tuple #[r, .int .i64 0]) ∧ Wi.OI .u8 5 W w' r (encB H)) := ⟨fun W hb => by
      have h := encode_any (R7.out.2.2.2.2.below hb) (HLW.out.below hb) b1 b2 b3
      rw [hcH] at h
      exact h⟩
    have SA : Aside0 (∀ W, Below W2.heap.size W2 W → Calls Tryd.prog 16 #[.agg #[.int .i64 G.p, .int .i64 G.f, .slice X2 G.ws.length x2, .slice X3 G.ks.length x3, .slice X4 G.ac.length x4], .agg #[.int .i64 H.p, .int .i64 H.f, .slice Y2 H.ws.length y2, .slice Y3 H.ks.length y3, .slice Y4 H.ac.length y4]] W fun e w' => e = .returned (.bool (sB G H)) ∧ Below W.heap.size W w') := ⟨fun W hb => rsame_any (R7.out.2.2.2.1.below hb) (R7.out.2.2.2.2.below hb) a3 a1 a2⟩
    have hlaw := apart_law gG gH
    clear gG gH a1 a2 a3 b1 b2 b3 hcG hcH GG GH HLW
    generalize sB G H = rr at SA hlaw
    generalize encB G = bx at EG hlaw
    generalize encB H = by_ at EH hlaw
    have HLAW := Aside0.mk hlaw
    clear hlaw
    have s0 := (blk_cell R7.out.1 0).trans (show _ = some (.int .i64 G.p) from rfl)
    have s1 := (blk_cell R7.out.1 1).trans (show _ = some (.int .i64 G.f) from rfl)
    have s2 := (blk_cell R7.out.1 2).trans (show _ = some (.slice X2 G.ws.length x2) from rfl)
    have s3 := (blk_cell R7.out.1 3).trans (show _ = some (.slice X3 G.ks.length x3) from rfl)
    have s4 := (blk_cell R7.out.1 4).trans (show _ = some (.slice X4 G.ac.length x4) from rfl)
    have t0 := (blk_cell R7.out.2.1 0).trans (show _ = some (.int .i64 H.p) from rfl)
    have t1 := (blk_cell R7.out.2.1 1).trans (show _ = some (.int .i64 H.f) from rfl)
    have t2 := (blk_cell R7.out.2.1 2).trans (show _ = some (.slice Y2 H.ws.length y2) from rfl)
    have t3 := (blk_cell R7.out.2.1 3).trans (show _ = some (.slice Y3 H.ks.length y3) from rfl)
    have t4 := (blk_cell R7.out.2.1 4).trans (show _ = some (.slice Y4 H.ac.length y4) from rfl)
    go_upto_region 5 with (first | (go_at_call 11; (with_reducible refine (EG.out _ (Below.refl _ _)).mono ?_); rintro e w5 ⟨r, rfl, ho⟩; obtain ⟨A5, c5, rfl, hci⟩ := ho.reads; have H5 := Aside0.mk (And.intro hci ho.bel); clear ho hci s0 s1 s2 s3 s4 t0 t1 t2 t3 t4))
    have t0 := (blk_cell (blk_below R7.out.2.1 H5.out.2) 0).trans (show _ = some (.int .i64 H.p) from rfl)
    have t1 := (blk_cell (blk_below R7.out.2.1 H5.out.2) 1).trans (show _ = some (.int .i64 H.f) from rfl)
    have t2 := (blk_cell (blk_below R7.out.2.1 H5.out.2) 2).trans (show _ = some (.slice Y2 H.ws.length y2) from rfl)
    have t3 := (blk_cell (blk_below R7.out.2.1 H5.out.2) 3).trans (show _ = some (.slice Y3 H.ks.length y3) from rfl)
    have t4 := (blk_cell (blk_below R7.out.2.1 H5.out.2) 4).trans (show _ = some (.slice Y4 H.ac.length y4) from rfl)
    go_upto_region 6 with (first | (go_at_call 11; (with_reducible refine (EH.out _ H5.out.2).mono ?_); rintro e w6 ⟨r, rfl, ho⟩; obtain ⟨A6, c6, rfl, hci⟩ := ho.reads; have H6 := Aside0.mk (And.intro hci (And.intro (H5.out.1.below ho.bel) (below_step H5.out.2 ho.bel))); clear ho hci t0 t1 t2 t3 t4))
    clear EG EH H5
    have s0 := (blk_cell (blk_below R7.out.1 H6.out.2.2) 0).trans (show _ = some (.int .i64 G.p) from rfl)
    have s1 := (blk_cell (blk_below R7.out.1 H6.out.2.2) 1).trans (show _ = some (.int .i64 G.f) from rfl)
    have s2 := (blk_cell (blk_below R7.out.1 H6.out.2.2) 2).trans (show _ = some (.slice X2 G.ws.length x2) from rfl)
    have s3 := (blk_cell (blk_below R7.out.1 H6.out.2.2) 3).trans (show _ = some (.slice X3 G.ks.length x3) from rfl)
    have s4 := (blk_cell (blk_below R7.out.1 H6.out.2.2) 4).trans (show _ = some (.slice X4 G.ac.length x4) from rfl)
    have t0 := (blk_cell (blk_below R7.out.2.1 H6.out.2.2) 0).trans (show _ = some (.int .i64 H.p) from rfl)
    have t1 := (blk_cell (blk_below R7.out.2.1 H6.out.2.2) 1).trans (show _ = some (.int .i64 H.f) from rfl)
    have t2 := (blk_cell (blk_below R7.out.2.1 H6.out.2.2) 2).trans (show _ = some (.slice Y2 H.ws.length y2) from rfl)
    have t3 := (blk_cell (blk_below R7.out.2.1 H6.out.2.2) 3).trans (show _ = some (.slice Y3 H.ks.length y3) from rfl)
    have t4 := (blk_cell (blk_below R7.out.2.1 H6.out.2.2) 4).trans (show _ = some (.slice Y4 H.ac.length y4) from rfl)
    have TS6 := Aside0.mk (fun (W : World) (hb : Below w6.heap.size w6 W) => And.intro (cell_b s0 hb) (And.intro (cell_b s1 hb) (And.intro (cell_b s2 hb) (And.intro (cell_b s3 hb) (And.intro (cell_b s4 hb) (And.intro (cell_b t0 hb) (And.intro (cell_b t1 hb) (And.intro (cell_b t2 hb) (And.intro (cell_b t3 hb) (And.intro (cell_b t4 hb) (And.intro ((H6.out.2.1.below hb).str) ((H6.out.1.below hb).str))))))))))))
    clear s0 s1 s2 s3 s4 t0 t1 t2 t3 t4
    refine start_ (n := 18) (S := (fun w' => w'.cell? ⟨q5, 0, none⟩ = some (.int .i64 G.p) ∧ w'.cell? ⟨q5, 1, none⟩ = some (.int .i64 G.f) ∧ w'.cell? ⟨q5, 2, none⟩ = some (.slice X2 G.ws.length x2) ∧ w'.cell? ⟨q5, 3, none⟩ = some (.slice X3 G.ks.length x3) ∧ w'.cell? ⟨q5, 4, none⟩ = some (.slice X4 G.ac.length x4) ∧ w'.cell? ⟨q6, 0, none⟩ = some (.int .i64 H.p) ∧ w'.cell? ⟨q6, 1, none⟩ = some (.int .i64 H.f) ∧ w'.cell? ⟨q6, 2, none⟩ = some (.slice Y2 H.ws.length y2) ∧ w'.cell? ⟨q6, 3, none⟩ = some (.slice Y3 H.ks.length y3) ∧ w'.cell? ⟨q6, 4, none⟩ = some (.slice Y4 H.ac.length y4) ∧ (convert 29 9 (.slice A5 bx.length c5)).run Tryd.prog w' = .ok (.string (strOfNums bx)) w' ∧ (convert 29 9 (.slice A6 by_.length c6)).run Tryd.prog w' = .ok (.string (strOfNums by_)) w')) (ds := []) #[false, false, false, false, false, false, false, false, false, false, false, false, false, false, false, false, false, false] (by kernel_rfl) rfl rfl (TS6.out _ (below_drew (Below.refl _ _))) (fun hHeld => ?_)
    refine pure_ (i := 0) (N := some 29) (v := ?_) (a' := ?_) #[true, false, false, false, false, false, false, false, false, false, false, false, false, false, false, false, false, false] rfl rfl (by kernel_rfl) (fun _ _ _ h => h) (Or.inl ⟨by rfl, ?_⟩) ?_ ?_
    rotate_left
    · intro w'
      go_simp
      with_reducible rfl
    rotate_left
    · simp only [Act.put, List.setIfInBounds_toArray, List.set_cons_zero, List.set_cons_succ, i64_w, i32_w]
      rfl
    refine pure_ (i := 1) (N := some 30) (v := ?_) (a' := ?_) #[true, true, false, false, false, false, false, false, false, false, false, false, false, false, false, false, false, false] rfl rfl (by kernel_rfl) (fun _ _ _ h => h) (Or.inl ⟨by rfl, ?_⟩) ?_ ?_
    rotate_left
    · intro w'
      go_simp
      with_reducible rfl
    rotate_left
    · simp only [Act.put, List.setIfInBounds_toArray, List.set_cons_zero, List.set_cons_succ, i64_w, i32_w]
      rfl
    refine pure_ (i := 2) (N := some 31) (v := ?_) (a' := ?_) #[true, true, true, false, false, false, false, false, false, false, false, false, false, false, false, false, false, false] rfl rfl (by kernel_rfl) (fun _ _ _ h => h) (Or.inl ⟨by rfl, ?_⟩) ?_ ?_
    rotate_left
    · intro w'
      go_simp
      with_reducible rfl
    rotate_left
    · simp only [Act.put, List.setIfInBounds_toArray, List.set_cons_zero, List.set_cons_succ, i64_w, i32_w]
      rfl
    refine pure_ (i := 3) (N := some 32) (v := ?_) (a' := ?_) #[true, true, true, true, false, false, false, false, false, false, false, false, false, false, false, false, false, false] rfl rfl (by kernel_rfl) (fun _ _ _ h => h) (Or.inl ⟨by rfl, ?_⟩) ?_ ?_
    rotate_left
    · intro w'
      go_simp
      with_reducible rfl
    rotate_left
    · simp only [Act.put, List.setIfInBounds_toArray, List.set_cons_zero, List.set_cons_succ, i64_w, i32_w]
      rfl
    refine pure_ (i := 4) (N := some 33) (v := ?_) (a' := ?_) #[true, true, true, true, true, false, false, false, false, false, false, false, false, false, false, false, false, false] rfl rfl (by kernel_rfl) (fun _ _ _ h => h) (Or.inl ⟨by rfl, ?_⟩) ?_ ?_
    rotate_left
    · intro w'
      go_simp
      with_reducible rfl
    rotate_left
    · simp only [Act.put, List.setIfInBounds_toArray, List.set_cons_zero, List.set_cons_succ, i64_w, i32_w]
      rfl
    refine pure_ (i := 5) (N := some 34) (v := ?_) (a' := ?_) #[true, true, true, true, true, true, false, false, false, false, false, false, false, false, false, false, false, false] rfl rfl (by kernel_rfl) (fun _ _ _ h => h) (Or.inl ⟨by rfl, ?_⟩) ?_ ?_
    rotate_left
    · intro w'
      go_simp
      with_reducible rfl
    rotate_left
    · simp only [Act.put, List.setIfInBounds_toArray, List.set_cons_zero, List.set_cons_succ, i64_w, i32_w]
      rfl
    refine pure_ (i := 6) (N := some 35) (v := ?_) (a' := ?_) #[true, true, true, true, true, true, true, false, false, false, false, false, false, false, false, false, false, false] rfl rfl (by kernel_rfl) (fun _ _ _ h => h) (Or.inl ⟨by rfl, ?_⟩) ?_ ?_
    rotate_left
    · intro w'
      go_simp
      with_reducible rfl
    rotate_left
    · simp only [Act.put, List.setIfInBounds_toArray, List.set_cons_zero, List.set_cons_succ, i64_w, i32_w]
      rfl
    refine pure_ (i := 7) (N := some 36) (v := ?_) (a' := ?_) #[true, true, true, true, true, true, true, true, false, false, false, false, false, false, false, false, false, false] rfl rfl (by kernel_rfl) (fun _ _ _ h => h) (Or.inl ⟨by rfl, ?_⟩) ?_ ?_
    rotate_left
    · intro w'
      go_simp
      with_reducible rfl
    rotate_left
    · simp only [Act.put, List.setIfInBounds_toArray, List.set_cons_zero, List.set_cons_succ, i64_w, i32_w]
      rfl
    refine take_ (i := 8) (N := some 37) (v := ?_) (a' := ?_) #[true, true, true, true, true, true, true, true, true, false, false, false, false, false, false, false, false, false] rfl rfl (by kernel_rfl) (fun _ _ _ h => h) (Or.inl ⟨by rfl, ?_⟩) hHeld ?_ ?_
    rotate_left
    · intro w' hSw
      obtain ⟨s0, s1, s2, s3, s4, t0, t1, t2, t3, t4, cv1, cv2⟩ := hSw
      go_simp
      with_reducible rfl
    rotate_left
    · simp only [Act.put, List.setIfInBounds_toArray, List.set_cons_zero, List.set_cons_succ, i64_w, i32_w]
      rfl
    refine pure_ (i := 9) (N := some 38) (v := ?_) (a' := ?_) #[true, true, true, true, true, true, true, true, true, true, false, false, false, false, false, false, false, false] rfl rfl (by kernel_rfl) (fun _ _ _ h => h) (Or.inl ⟨by rfl, ?_⟩) ?_ ?_
    rotate_left
    · intro w'
      go_simp
      with_reducible rfl
    rotate_left
    · simp only [Act.put, List.setIfInBounds_toArray, List.set_cons_zero, List.set_cons_succ, i64_w, i32_w]
      rfl
    refine take_ (i := 10) (N := some 39) (v := ?_) (a' := ?_) #[true, true, true, true, true, true, true, true, true, true, true, false, false, false, false, false, false, false] rfl rfl (by kernel_rfl) (fun _ _ _ h => h) (Or.inl ⟨by rfl, ?_⟩) hHeld ?_ ?_
    rotate_left
    · intro w' hSw
      obtain ⟨s0, s1, s2, s3, s4, t0, t1, t2, t3, t4, cv1, cv2⟩ := hSw
      go_simp
      with_reducible rfl
    rotate_left
    · simp only [Act.put, List.setIfInBounds_toArray, List.set_cons_zero, List.set_cons_succ, i64_w, i32_w]
      rfl
    refine pure_ (i := 11) (N := some 40) (v := ?_) (a' := ?_) #[true, true, true, true, true, true, true, true, true, true, true, true, false, false, false, false, false, false] rfl rfl (by kernel_rfl) (fun _ _ _ h => h) (Or.inl ⟨by rfl, ?_⟩) ?_ ?_
    rotate_left
    · intro w'
      go_simp
      with_reducible rfl
    rotate_left
    · simp only [Act.put, List.setIfInBounds_toArray, List.set_cons_zero, List.set_cons_succ, i64_w, i32_w]
      rfl
    refine take_ (i := 12) (N := some 41) (v := ?_) (a' := ?_) #[true, true, true, true, true, true, true, true, true, true, true, true, true, false, false, false, false, false] rfl rfl (by kernel_rfl) (fun _ _ _ h => h) (Or.inl ⟨by rfl, ?_⟩) hHeld ?_ ?_
    rotate_left
    · intro w' hSw
      obtain ⟨s0, s1, s2, s3, s4, t0, t1, t2, t3, t4, cv1, cv2⟩ := hSw
      go_simp
      with_reducible rfl
    rotate_left
    · simp only [Act.put, List.setIfInBounds_toArray, List.set_cons_zero, List.set_cons_succ, i64_w, i32_w]
      rfl
    refine take_ (i := 13) (N := some 42) (v := ?_) (a' := ?_) #[true, true, true, true, true, true, true, true, true, true, true, true, true, true, false, false, false, false] rfl rfl (by kernel_rfl) (fun _ _ _ h => h) (Or.inl ⟨by rfl, ?_⟩) hHeld ?_ ?_
    rotate_left
    · intro w' hSw
      obtain ⟨s0, s1, s2, s3, s4, t0, t1, t2, t3, t4, cv1, cv2⟩ := hSw
      go_simp
      with_reducible rfl
    rotate_left
    · simp only [Act.put, List.setIfInBounds_toArray, List.set_cons_zero, List.set_cons_succ, i64_w, i32_w]
      rfl
    clear hHeld
    refine one_ (i := 14) (N := some 43) #[true, true, true, true, true, true, true, true, true, true, true, true, true, true, true, false, false, false] rfl rfl (by kernel_rfl) (by decide) (fun K hK => ?_)
    refine goes_ Tryd.func16 (by kernel_rfl) rfl #[.agg #[.int .i64 G.p, .int .i64 G.f, .slice X2 G.ws.length x2, .slice X3 G.ks.length x3, .slice X4 G.ac.length x4], .agg #[.int .i64 H.p, .int .i64 H.f, .slice Y2 H.ws.length y2, .slice Y3 H.ks.length y3, .slice Y4 H.ac.length y4]] (by rfl) rfl rfl (by (try simp only [List.map_toArray, List.map_cons, List.map_nil]); first | done | rfl | (simp only [List.length_drop, List.length_take]; rfl)) ?_
    (with_reducible refine (SA.out _ (below_drew H6.out.2.2)).mono ?_)
    rintro e w7 ⟨rfl, hb⟩
    refine ⟨_, rfl, ?_⟩
    have HB := Aside0.mk (below_step (below_drew H6.out.2.2) hb)
    have TS7 := TS6.out _ (below_step (below_drew (Below.refl _ _)) hb)
    clear hb
    refine hK.out _ _ TS7 (fun hHeld => ?_)
    clear hK K
    refine norm_ (a' := ?_) ?_ ?_
    rotate_left
    · show Act.put _ (some 43) _ = _
      simp only [Act.put, List.setIfInBounds_toArray, List.set_cons_zero, List.set_cons_succ, i64_w, i32_w]
      rfl
    rw [HLAW.out]
    refine pure_ (i := 15) (N := some 44) (v := ?_) (a' := ?_) #[true, true, true, true, true, true, true, true, true, true, true, true, true, true, true, true, false, false] rfl rfl (by kernel_rfl) (fun _ _ _ h => h) (Or.inl ⟨by rfl, ?_⟩) ?_ ?_
    rotate_left
    · intro w'
      go_simp
      with_reducible rfl
    rotate_left
    · simp only [Act.put, List.setIfInBounds_toArray, List.set_cons_zero, List.set_cons_succ, i64_w, i32_w]
      rfl
    refine pure_ (i := 16) (N := some 45) (v := ?_) (a' := ?_) #[true, true, true, true, true, true, true, true, true, true, true, true, true, true, true, true, true, false] rfl rfl (by kernel_rfl) (fun _ _ _ h => h) (Or.inl ⟨by rfl, ?_⟩) ?_ ?_
    rotate_left
    · intro w'
      go_simp
      with_reducible rfl
    rotate_left
    · simp only [Act.put, List.setIfInBounds_toArray, List.set_cons_zero, List.set_cons_succ, i64_w, i32_w]
      rfl
    refine pure_ (i := 17) (N := some 4) (v := ?_) (a' := ?_) #[true, true, true, true, true, true, true, true, true, true, true, true, true, true, true, true, true, true] rfl rfl (by kernel_rfl) (fun _ _ _ h => h) (Or.inl ⟨by rfl, ?_⟩) ?_ ?_
    rotate_left
    · intro w'
      go_simp
      with_reducible rfl
    rotate_left
    · simp only [Act.put, List.setIfInBounds_toArray, List.set_cons_zero, List.set_cons_succ, i64_w, i32_w]
      rfl
    refine done_ (by kernel_rfl) ?_
    go_wp2
    go_ret
    exact ⟨by simp, below_step R3.out.2.2 (below_step R7.out.2.2.1 HB.out)⟩
end Go.Proofs.YtdebbanloopcgaaDoor.Tb
