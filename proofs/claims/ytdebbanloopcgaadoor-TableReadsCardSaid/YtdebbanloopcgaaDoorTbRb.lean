/- Layer 5 (table): the document's read. -/
import Derived.Test.YtdebbanloopcgaaDoorTbRa
import Derived.Deep.RegionHeld3
set_option linter.unusedVariables false
set_option linter.unusedSimpArgs false
namespace Go.Proofs.YtdebbanloopcgaaDoor.Tb
open Go Go.RowKit Go.Proofs.YtdebbanloopcgaaDoorW.PrintWords Go.Proofs.YtdebbanloopcgaaDoorW.PrintLast Go.Proofs.YtdebbanloopcgaaDoorW.PrintMore Go.Proofs.YtdebbanloopcgaaDoor.Cz Go.Proofs.YtdebbanloopcgaaDoor.PTableWrites Go.Proofs.YtdebbanloopcgaaDoor.Cf
attribute [local go_sem] max2_int min2_int max_two min_two max_three min_three max_four min_four Tryd.underlying69 Tryd.underlying71 Tryd.underlying26 Tryd.underlying46 Tryd.underlying57
theorem read_fin {r rd r2 r3 r4 r5 rz : Wi.Rd} {p f : Int} {m2 m3 m4 : Nat} {ws : List S46} {ks : List S57} {ac : List Int} (e1 : Wi.nextV r 1 = p) (e2 : Wi.nextV (Wi.next r 1) 1 = f) (e3 : mW r = m2) (ed : dW r = rd) (e4 : liR nxW rdW rd m2 = ws) (e5 : itR nxW rd m2 = r2) (e6 : (Wi.nextV r2 1).toNat = m3) (e7 : Wi.next r2 1 = r3) (e8 : liR nxK rdK r3 m3 = ks) (e9 : itR nxK r3 m3 = r4) (e10 : (Wi.nextV r4 1).toNat = m4) (e11 : Wi.next r4 1 = r5) (e12 : liR nxA rdA r5 m4 = ac) (e13 : itR nxA r5 m4 = rz) : decC r = ⟨p, f, ws, ks, ac⟩ ∧ eA r = rz := by
  subst e1 e2 e3 ed e4 e5 e6 e7 e8 e9 e10 e11 e12 e13
  exact ⟨rfl, rfl⟩
theorem rows_mv {w W : World} {p f : Int} {A2 A3 A4 : Option Addr} {d2 d3 d4 : Nat} {ws : List S46} {ks : List S57} {ac : List Int} (r2 : k46.R 46 W w.heap.size (fun k => w.heap.size ≤ k) (.slice A2 ws.length d2) ws) (r3 : k57.R 57 W w.heap.size (fun k => w.heap.size ≤ k) (.slice A3 ks.length d3) ks) (r4 : (Kd.int .i64).R 3 W w.heap.size (fun k => w.heap.size ≤ k) (.slice A4 ac.length d4) ac) :
    ∀ W', (∀ b, w.heap.size ≤ b → b < W.heap.size → W'.heap[b]? = W.heap[b]?) → CX W' ⟨p, f, ws, ks, ac⟩ A2 d2 A3 d3 A4 d4 := by
  intro W' hm
  obtain ⟨_, _, e2, m2, t2⟩ := Kd.R_reads (Kd.R_step (w1 := W') r2 hm)
  obtain ⟨_, _, e3, m3, t3⟩ := Kd.R_reads (Kd.R_step (w1 := W') r3 hm)
  obtain ⟨_, _, e4, m4, t4⟩ := Kd.R_reads (Kd.R_step (w1 := W') r4 hm)
  cases e2
  cases e3
  cases e4
  exact ⟨t2, m2, t3, m3, t4, m4⟩
theorem R_typ {α : Type} {d : Kd α} {e base : Nat} {W W1 : World} {ok : Nat → Prop} {v : Value} {xs : List α} (hE : d.E = []) (h : d.R e W base ok v xs) (hm : ∀ (k : Nat) (cs : Array Value), W.heap[k]? = some (.cells cs e (0, 0)) → W1.heap[k]? = W.heap[k]?) : d.R e W1 base ok v xs := by
  refine Kd.R_mono (Kd.R_move (Kd.R_bound h) (fun k hk => ?_)) (fun k hk => hk.1)
  obtain ⟨_, _, _, q, hq, cells, hc⟩ := hk
  rw [hE] at hq
  have : q = e := by simpa using hq
  subst this
  exact hm k cells hc
theorem start4 (w : World) (o1 o2 o3 o4 : Array Value) (t1 t2 t3 t4 : Nat) : ((((w.alloc (.cells o1 t1)).alloc (.cells o2 t2)).alloc (.cells o3 t3)).alloc (.cells o4 t4)).heap[w.heap.size]? = some (.cells o1 t1 (0, 0)) ∧ ((((w.alloc (.cells o1 t1)).alloc (.cells o2 t2)).alloc (.cells o3 t3)).alloc (.cells o4 t4)).heap[w.heap.size + 1]? = some (.cells o2 t2 (0, 0)) ∧ ((((w.alloc (.cells o1 t1)).alloc (.cells o2 t2)).alloc (.cells o3 t3)).alloc (.cells o4 t4)).heap[w.heap.size + 1 + 1]? = some (.cells o3 t3 (0, 0)) ∧ ((((w.alloc (.cells o1 t1)).alloc (.cells o2 t2)).alloc (.cells o3 t3)).alloc (.cells o4 t4)).heap[w.heap.size + 1 + 1 + 1]? = some (.cells o4 t4 (0, 0)) ∧ Below w.heap.size w ((((w.alloc (.cells o1 t1)).alloc (.cells o2 t2)).alloc (.cells o3 t3)).alloc (.cells o4 t4)) := by
  have h2 := blk_new (w.alloc (.cells o1 t1)) (.cells o2 t2)
  rw [World.size_alloc] at h2
  have h3 := blk_new ((w.alloc (.cells o1 t1)).alloc (.cells o2 t2)) (.cells o3 t3)
  rw [World.size_alloc, World.size_alloc] at h3
  have h4 := blk_new (((w.alloc (.cells o1 t1)).alloc (.cells o2 t2)).alloc (.cells o3 t3)) (.cells o4 t4)
  rw [World.size_alloc, World.size_alloc, World.size_alloc] at h4
  exact ⟨blk_alloc (blk_alloc (blk_alloc (blk_new _ _) _) _) _, blk_alloc (blk_alloc h2 _) _, blk_alloc h3 _, h4, below_alloc (below_alloc (below_alloc (below_alloc (Below.refl _ _) _) _) _) _⟩
set_option maxHeartbeats 32000000 in
set_option maxRecDepth 100000 in
theorem rread_any {wb : World} {A : Option Addr} {c : Nat} {r : Wi.Rd} (h : Wi.CI .u8 wb A c r.b) (hf : Wi.WF r.b) {w : World} (hb0 : Below wb.heap.size wb w) :
    Calls Tryd.prog 41 #[.agg #[.slice A r.b.length c, .int .i64 r.e]] w fun e w' => ∃ A' c' B2 d2 B3 d3 B4 d4, e = .returned (.tuple #[.agg #[.int .i64 (decC r).p, .int .i64 (decC r).f, .slice B2 (decC r).ws.length d2, .slice B3 (decC r).ks.length d3, .slice B4 (decC r).ac.length d4], .agg #[.slice A' (eA r).b.length c', .int .i64 (eA r).e]]) ∧ Wi.CI .u8 wb A' c' (eA r).b ∧ (∀ W', (∀ b, w.heap.size ≤ b → b < w'.heap.size → W'.heap[b]? = w'.heap[b]?) → CX W' (decC r) B2 d2 B3 d3 B4 d4) ∧ Below w.heap.size w w' := by
  have H0 := Aside0.mk (start4 w #[.slice A r.b.length c, .int .i64 r.e] #[.int .i64 0, .int .i64 0, .slice none 0 0, .slice none 0 0, .slice none 0 0] #[.slice none 0 0, .int .i64 0] #[.int .i64 0, .int .i64 0, .slice none 0 0, .slice none 0 0, .slice none 0 0] 69 26 69 26)
  have HCI := Aside0.mk h
  have HF := Aside0.mk hf
  have HB0 := Aside0.mk hb0
  have TT := Aside0.mk Tryd.underlying26
  have TR := Aside0.mk Tryd.underlying69
  clear h hf hb0
  have E3 : Aside0 (Wi.nextV (nx r [1, 1]) 1 = ((mW r : Nat) : Int)) := ⟨by have := nextV1_bd (nx_wf (l := [1, 1]) HF.out); unfold mW; omega⟩
  go_enter Tryd.func41, Tryd.ntmps41
  go_upto_region 2 with (first | fail)
  generalize ((((w.alloc (.cells #[.slice A r.b.length c, .int .i64 r.e] 69)).alloc (.cells #[.int .i64 0, .int .i64 0, .slice none 0 0, .slice none 0 0, .slice none 0 0] 26)).alloc (.cells #[.slice none 0 0, .int .i64 0] 69)).alloc (.cells #[.int .i64 0, .int .i64 0, .slice none 0 0, .slice none 0 0, .slice none 0 0] 26)) = W0 at H0 ⊢
  obtain ⟨q1, hq1⟩ : ∃ x, w.heap.size = x := ⟨_, rfl⟩
  obtain ⟨q4, hq4⟩ : ∃ x, w.heap.size + 1 + 1 + 1 = x := ⟨_, rfl⟩
  obtain ⟨q3, hq3⟩ : ∃ x, w.heap.size + 1 + 1 = x := ⟨_, rfl⟩
  obtain ⟨q2, hq2⟩ : ∃ x, w.heap.size + 1 = x := ⟨_, rfl⟩
  have HQ : Aside0 (w.heap.size ≤ q2 ∧ w.heap.size ≤ q3 ∧ w.heap.size ≤ q4 ∧ q2 ≠ q4) := ⟨by omega⟩
  rw [hq4, hq3, hq2] at H0 ⊢
  have H0' : Aside0 (W0.heap[q1]? = some (.cells #[.slice A r.b.length c, .int .i64 r.e] 69 (0, 0))) := ⟨by rw [← hq1]; exact H0.out.1⟩
  rw [hq1] at ⊢
  clear hq1 hq2 hq3 hq4
  have p0 := (blk_cell H0'.out 0).trans (show _ = some (.slice A r.b.length c) from rfl)
  have p1 := (blk_cell H0'.out 1).trans (show _ = some (.int .i64 r.e) from rfl)
  go_upto_region 3 with (first | ((with_reducible refine gate_dst (N := 18) rfl ?_); refine Wi.lit_ints (k := .i64) (e := 3) ?hg (N := 18) ?hd [1, 1, 1] #[.int .i64 1, .int .i64 1, .int .i64 1] ?hr ?hi ?hm ?_; (case hd => rfl); (case hg => rfl); (case hr => first | (go_simp; done) | (go_simp; rfl)); (case hi => rfl); (case hm => simp); intro D wl hC hO; have HC : Aside0 (Wi.CI .i64 wl D 3 [1, 1, 1]) := ⟨hC⟩; have HL := Aside0.mk hO.bel; have TKC := Aside0.mk (take_lit (n := 3) HCI.out HF.out (below_step HB0.out (below_step H0.out.2.2.2.2 hO.bel)) HC.out (by decide) rfl (by decide)); clear hC hO HC p0 p1) | (go_at_call 40; (with_reducible refine TKC.out.mono ?_); rintro e w5 ⟨A5, c5, g5, cg5, rfl, hc5, ho5, hg5⟩; have H5 := Aside0.mk (And.intro hc5 (And.intro ho5 hg5)); clear hc5 ho5 hg5 TKC))
  have h5 : RB wb w (w5.alloc (.cells #[.slice A5 (nx r [1, 1, 1]).b.length c5, .int .i64 (nx r [1, 1, 1]).e, .slice (some ⟨g5, 0, none⟩) 3 cg5] 71)) q2 q3 q4 w5.heap.size A5 c5 (nx r [1, 1, 1]) (.slice (some ⟨g5, 0, none⟩) 3 cg5) 0 0 (.slice none 0 0) (.slice none 0 0) (.slice none 0 0) [] [] [] [⟨w5.heap.size, g5, cg5, 3, vl r [1, 1, 1]⟩] := by
    have hb1 := below_step HL.out H5.out.2.1.bel
    have hb2 := below_alloc (Below.refl w5.heap.size w5) (.cells #[.slice A5 (nx r [1, 1, 1]).b.length c5, .int .i64 (nx r [1, 1, 1]).e, .slice (some ⟨g5, 0, none⟩) 3 cg5] 71)
    have hbw := below_step H0.out.2.2.2.2 (below_step hb1 hb2)
    have hbl := below_step H0.out.2.2.2.2 HL.out
    refine ⟨blk_below (blk_below H0.out.2.1 hb1) hb2, blk_below (blk_below H0.out.2.2.1 hb1) hb2, blk_below (blk_below H0.out.2.2.2.1 hb1) hb2, blk_new _ _, H5.out.1, Kd.R_nil _ _ _ _ _, Kd.R_nil _ _ _ _ _, Kd.R_nil _ _ _ _ _, hbw, HQ.out.1, HQ.out.2.1, HQ.out.2.2.1, (below_step H0.out.2.2.2.2 hb1).size, HQ.out.2.2.2, fun l hl => ?_, fun l hl e => by cases e⟩
    obtain rfl := List.mem_singleton.1 hl
    exact ⟨⟨_, _, blk_new _ _⟩, (H5.out.2.1.less hbl).far hb2, (below_step H0.out.2.2.2.2 hb1).size⟩
  have H6 := Aside0.mk h5
  clear h5 H5 HL H0 H0' HQ HCI
  generalize (w5.alloc (.cells #[.slice A5 (nx r [1, 1, 1]).b.length c5, .int .i64 (nx r [1, 1, 1]).e, .slice (some ⟨g5, 0, none⟩) 3 cg5] 71)) = W6 at H6 ⊢
  generalize w5.heap.size = q5 at H6 ⊢
  obtain ⟨p, hp⟩ : ∃ x, Wi.nextV r 1 = x := ⟨_, rfl⟩
  obtain ⟨f, hfv⟩ : ∃ x, Wi.nextV (Wi.next r 1) 1 = x := ⟨_, rfl⟩
  obtain ⟨m2, hm2⟩ : ∃ x, mW r = x := ⟨_, rfl⟩
  obtain ⟨rd0, hrd⟩ : ∃ x, nx r [1, 1, 1] = x := ⟨_, rfl⟩
  have hmb : mW r ≤ 255 := mW_le HF.out
  rw [hm2] at E3 hmb
  rw [hrd] at H6
  have HM2 := Aside0.mk hmb
  have HWD : Aside0 (Wi.WF rd0.b) := ⟨by rw [← hrd]; exact nx_wf HF.out⟩
  have E1 := Aside0.mk hp
  have E2 := Aside0.mk hfv
  have EM := Aside0.mk hm2
  have ED := Aside0.mk hrd
  clear hp hfv hm2 hrd
  obtain ⟨l5, hl5⟩ : ∃ x, vl r [1, 1, 1] = x := ⟨_, rfl⟩
  have EL : Aside0 (rd l5 (0 : Nat) = p ∧ rd l5 (1 : Nat) = f ∧ rd l5 (2 : Nat) = (m2 : Int)) := ⟨by rw [← hl5, ← E1.out, ← E2.out, ← E3.out]; exact ⟨rfl, rfl, rfl⟩⟩
  rw [hl5] at H6
  clear hl5 E3
  have h0 := H6.out
  clear h0
  have x2 := (blk_cell H6.out.xb 2).trans (show _ = some (.slice (some ⟨g5, 0, none⟩) 3 cg5) from rfl)
  have e0 : W6.cell? ⟨g5, 0, none⟩ = some (.int .i64 p) := ((H6.out.rows (⟨q5, g5, cg5, 3, l5⟩ : LRow) (List.mem_singleton.2 rfl)).cell (i := 0) (show 0 < 3 by decide)).trans (by rw [show rd (⟨q5, g5, cg5, 3, l5⟩ : LRow).ls ((0 : Nat) : Int) = p from EL.out.1])
  have e1 : W6.cell? ⟨g5, 1, none⟩ = some (.int .i64 f) := ((H6.out.rows (⟨q5, g5, cg5, 3, l5⟩ : LRow) (List.mem_singleton.2 rfl)).cell (i := 1) (show 1 < 3 by decide)).trans (by rw [show rd (⟨q5, g5, cg5, 3, l5⟩ : LRow).ls ((1 : Nat) : Int) = f from EL.out.2.1])
  have y0 := (blk_cell H6.out.cb 0).trans (show _ = some (.int .i64 0) from rfl)
  have yf0 := blk_frozen H6.out.cb 0
  go_upto_region 4 with (first | fail)
  have H7 := Aside0.mk (H6.out.putC (p' := p) (f' := 0) 0 (.int .i64 p) rfl)
  clear x2 e0 e1 y0 yf0 H6
  generalize (W6.setCell ⟨q4, 0, none⟩ (.int .i64 p)) = W7 at H7 ⊢
  have x2 := (blk_cell H7.out.xb 2).trans (show _ = some (.slice (some ⟨g5, 0, none⟩) 3 cg5) from rfl)
  have e1 : W7.cell? ⟨g5, 1, none⟩ = some (.int .i64 f) := ((H7.out.rows (⟨q5, g5, cg5, 3, l5⟩ : LRow) (List.mem_singleton.2 rfl)).cell (i := 1) (show 1 < 3 by decide)).trans (by rw [show rd (⟨q5, g5, cg5, 3, l5⟩ : LRow).ls ((1 : Nat) : Int) = f from EL.out.2.1])
  have y1 := (blk_cell H7.out.cb 1).trans (show _ = some (.int .i64 0) from rfl)
  have yf1 := blk_frozen H7.out.cb 1
  go_upto_region 5 with (first | fail)
  have H8 := Aside0.mk (H7.out.putC (p' := p) (f' := f) 1 (.int .i64 f) rfl)
  clear x2 e1 y1 yf1 H7
  generalize (W7.setCell ⟨q4, 1, none⟩ (.int .i64 f)) = W8 at H8 ⊢
  go_wp2
  go_loopw [6] (fun v6 wr => ∃ j : Nat, v6 = .int .i64 j ∧ j ≤ m2 ∧ Aside0 (∃ (A1 : Option Addr) (c1 : Nat) (v2 : Value), RB wb w wr q2 q3 q4 q5 A1 c1 (itR nxW rd0 j) (.slice (some ⟨g5, 0, none⟩) 3 cg5) p f v2 (.slice none 0 0) (.slice none 0 0) (liR nxW rdW rd0 j) [] [] [(⟨q5, g5, cg5, 3, l5⟩ : LRow)])) (fun v6 _ => m2 - (intOf v6).toNat)
  case atStart => exact ⟨0, rfl, by omega, ⟨⟨_, _, _, H8.out⟩⟩⟩
  case round =>
    clear H8
    rename_i gv6
    obtain ⟨j, rfl, hj, HJ⟩ := hrel
    obtain ⟨A1, c1, v2, hR⟩ := HJ.out
    obtain ⟨B2, d2, rfl, _, _⟩ := Kd.R_reads hR.o2
    have hll := liR_len (f := nxW) (g := rdW) (r := rd0) j
    rw [hll] at hR
    have H := Aside0.mk hR
    clear hR HJ hll
    have x2 := (blk_cell H.out.xb 2).trans (show _ = some (.slice (some ⟨g5, 0, none⟩) 3 cg5) from rfl)
    have e2 : wr.cell? ⟨g5, 2, none⟩ = some (.int .i64 (m2 : Int)) := ((H.out.rows (⟨q5, g5, cg5, 3, l5⟩ : LRow) (List.mem_singleton.2 rfl)).cell (i := 2) (show 2 < 3 by decide)).trans (by rw [show rd (⟨q5, g5, cg5, 3, l5⟩ : LRow).ls ((2 : Nat) : Int) = (m2 : Int) from EL.out.2.2])
    have x0 := (blk_cell H.out.xb 0).trans (show _ = some (.slice A1 (itR nxW rd0 j).b.length c1) from rfl)
    have x1 := (blk_cell H.out.xb 1).trans (show _ = some (.int .i64 (itR nxW rd0 j).e) from rfl)
    by_cases hlt : j < m2
    ·
      have d1 : decide ((j : Int) < (m2 : Int)) = true := decide_eq_true (by omega)
      have d1n : decide (j < m2) = true := decide_eq_true hlt
      have HWJ : Aside0 (Wi.WF (itR nxW rd0 j).b) := ⟨itR_wf (fun _ h => nx_wf h) HWD.out j⟩
      obtain ⟨wj, hwj⟩ : ∃ x, liR nxW rdW rd0 j = x := ⟨_, rfl⟩
      have ENX : Aside0 (liR nxW rdW rd0 (j + 1) = wj ++ [rdW (itR nxW rd0 j)] ∧ itR nxW rd0 (j + 1) = nxW (itR nxW rd0 j)) := ⟨by rw [← hwj]; exact ⟨rfl, rfl⟩⟩
      have HWL : Aside0 (wj.length = j) := ⟨by rw [← hwj]; exact liR_len j⟩
      rw [hwj] at H
      clear hwj
      generalize itR nxW rd0 j = rj at H HWJ ENX x0 x1
      go_upto_region 8 with (first | fail)
      clear x2 e2
      go_upto_region 9 with (first | ((with_reducible refine gate_dst (N := 41) rfl ?_); refine Wi.lit_ints (k := .i64) (e := 3) ?hg (N := 41) ?hd [1, 1, 1] #[.int .i64 1, .int .i64 1, .int .i64 1] ?hr ?hi ?hm ?_; (case hd => rfl); (case hg => rfl); (case hr => first | (go_simp; done) | (go_simp; rfl)); (case hi => rfl); (case hm => simp); intro D wl hC hO; have HC : Aside0 (Wi.CI .i64 wl D 3 [1, 1, 1]) := ⟨hC⟩; have HL := Aside0.mk (H.out.far hO.bel); have TKC := Aside0.mk (take_lit (n := 3) H.out.ci HWJ.out (below_step HB0.out (below_step H.out.bel hO.bel)) HC.out (by decide) rfl (by decide)); clear hC hO HC x0 x1) | (go_at_call 40; (with_reducible refine TKC.out.mono ?_); rintro e w5 ⟨A7, c7, g7, cg7, rfl, hc5, ho5, hg5⟩; have H5 := Aside0.mk (And.intro hc5 (And.intro ho5 hg5)); clear hc5 ho5 hg5 TKC))
      have h7 := And.intro (HL.out.more (a0 := .slice A7 (nx rj [1, 1, 1]).b.length c7) (a1 := .int .i64 (nx rj [1, 1, 1]).e) H5.out.2.1 H5.out.2.2) (And.intro (blk_new w5 (.cells #[.slice A7 (nx rj [1, 1, 1]).b.length c7, .int .i64 (nx rj [1, 1, 1]).e, .slice (some ⟨g7, 0, none⟩) 3 cg7] 71)) H5.out.1)
      have H7 := Aside0.mk h7
      clear h7 HL H5
      generalize (w5.alloc (.cells #[.slice A7 (nx rj [1, 1, 1]).b.length c7, .int .i64 (nx rj [1, 1, 1]).e, .slice (some ⟨g7, 0, none⟩) 3 cg7] 71)) = W7 at H7 ⊢
      generalize w5.heap.size = q7 at H7 ⊢
      obtain ⟨rn7, hrn⟩ : ∃ x, nx rj [1, 1, 1] = x := ⟨_, rfl⟩
      obtain ⟨l7, hl7⟩ : ∃ x, vl rj [1, 1, 1] = x := ⟨_, rfl⟩
      rw [hrn, hl7] at H7
      rw [hrn] at ⊢
      have ERN7 := Aside0.mk hrn
      have EL7 := Aside0.mk hl7
      clear hrn hl7
      clear H
      have z0 := (blk_cell H7.out.2.1 0).trans (show _ = some (.slice A7 rn7.b.length c7) from rfl)
      have z1 := (blk_cell H7.out.2.1 1).trans (show _ = some (.int .i64 rn7.e) from rfl)
      have x0 := (blk_cell H7.out.1.xb 0).trans (show _ = some (.slice A1 rj.b.length c1) from rfl)
      have x1 := (blk_cell H7.out.1.xb 1).trans (show _ = some (.int .i64 rj.e) from rfl)
      have xf0 := blk_frozen H7.out.1.xb 0
      have xf1 := blk_frozen H7.out.1.xb 1
      go_upto_region 10 with (first | fail)
      have H8 := Aside0.mk (H7.out.1.putX H7.out.2.2)
      clear z0 z1 x0 x1 xf0 xf1 H7
      generalize ((W7.setCell ⟨q5, 0, none⟩ (.slice A7 rn7.b.length c7)).setCell ⟨q5, 1, none⟩ (.int .i64 rn7.e)) = W8 at H8 ⊢
      obtain ⟨o0, ho0⟩ : ∃ x, Wi.nextV rj 1 = x := ⟨_, rfl⟩
      obtain ⟨o1, ho1⟩ : ∃ x, Wi.nextV (Wi.next rj 1) 1 = x := ⟨_, rfl⟩
      obtain ⟨o2, ho2⟩ : ∃ x, Wi.nextV (Wi.next (Wi.next rj 1) 1) 1 = x := ⟨_, rfl⟩
      have EO : Aside0 (rd l7 (0 : Nat) = o0 ∧ rd l7 (1 : Nat) = o1 ∧ rd l7 (2 : Nat) = o2 ∧ rdW rj = ⟨ownR o0, o1, o2⟩ ∧ nxW rj = rn7) := ⟨by rw [← EL7.out, ← ho0, ← ho1, ← ho2]; exact ⟨rfl, rfl, rfl, rfl, ERN7.out⟩⟩
      clear ho0 ho1 ho2 EL7 ERN7
      obtain ⟨a0, a1, hY⟩ := (H8.out.rows (⟨q7, g7, cg7, 3, l7⟩ : LRow) (List.mem_cons_self ..)).bk
      simp only [] at hY
      have HY := Aside0.mk hY
      have z2 := (blk_cell hY 2).trans (show _ = some (.slice (some ⟨g7, 0, none⟩) 3 cg7) from rfl)
      clear hY
      have e0 : W8.cell? ⟨g7, 0, none⟩ = some (.int .i64 o0) := ((H8.out.rows (⟨q7, g7, cg7, 3, l7⟩ : LRow) (List.mem_cons_self ..)).cell (i := 0) (show 0 < 3 by decide)).trans (by rw [show rd (⟨q7, g7, cg7, 3, l7⟩ : LRow).ls ((0 : Nat) : Int) = o0 from EO.out.1])
      go_upto_region 11 with (first | fail)
      clear z2 e0
      by_cases hoo : o0 = 255
  
      · subst hoo
        go_upto_region 13 with (first | fail)
        have HD := Aside0.mk (H8.out.far (below_drew (Below.refl W8.heap.size W8)))
        have HYD := Aside0.mk (blk_drew HY.out)
        refine start_ (n := 16) (S := (fun w' => w'.heap[q4]? = some (.cells #[.int .i64 p, .int .i64 f, .slice B2 j d2, .slice none 0 0, .slice none 0 0] 26 (0, 0)) ∧ w'.heap[q7]? = some (.cells #[a0, a1, .slice (some ⟨g7, 0, none⟩) 3 cg7] 71 (0, 0)) ∧ w'.cell? ⟨g7, 1, none⟩ = some (.int .i64 o1) ∧ w'.cell? ⟨g7, 2, none⟩ = some (.int .i64 o2))) (ds := [15]) #[false, false, false, false, false, false, false, false, false, false, false, false, false, false, false, false] (by kernel_rfl) rfl rfl (show W8.drew.heap[q4]? = some (.cells #[.int .i64 p, .int .i64 f, .slice B2 j d2, .slice none 0 0, .slice none 0 0] 26 (0, 0)) ∧ W8.drew.heap[q7]? = some (.cells #[a0, a1, .slice (some ⟨g7, 0, none⟩) 3 cg7] 71 (0, 0)) ∧ W8.drew.cell? ⟨g7, 1, none⟩ = some (.int .i64 o1) ∧ W8.drew.cell? ⟨g7, 2, none⟩ = some (.int .i64 o2) from ⟨HD.out.cb, HYD.out, ((HD.out.rows (⟨q7, g7, cg7, 3, l7⟩ : LRow) (List.mem_cons_self ..)).cell (i := 1) (show 1 < 3 by decide)).trans (by rw [show rd (⟨q7, g7, cg7, 3, l7⟩ : LRow).ls ((1 : Nat) : Int) = o1 from EO.out.2.1]), ((HD.out.rows (⟨q7, g7, cg7, 3, l7⟩ : LRow) (List.mem_cons_self ..)).cell (i := 2) (show 2 < 3 by decide)).trans (by rw [show rd (⟨q7, g7, cg7, 3, l7⟩ : LRow).ls ((2 : Nat) : Int) = o2 from EO.out.2.2.1])⟩) (fun hHeld => ?_)
        generalize W8.drew = W9 at HD HYD hHeld ⊢
        refine pure_ (i := 0) (N := some 52) (v := ?_) (a' := ?_) #[true, false, false, false, false, false, false, false, false, false, false, false, false, false, false, false] rfl rfl (by kernel_rfl) (fun _ _ _ h => h) (Or.inl ⟨by rfl, ?_⟩) ?_ ?_
        rotate_left
        · intro w'
          go_simp
          with_reducible rfl
        rotate_left
        · simp only [Act.put, List.setIfInBounds_toArray, List.set_cons_zero, List.set_cons_succ, i64_w, i32_w]
          rfl
        refine take_ (i := 1) (N := some 53) (v := ?_) (a' := ?_) #[true, true, false, false, false, false, false, false, false, false, false, false, false, false, false, false] rfl rfl (by kernel_rfl) (fun _ _ _ h => h) (Or.inl ⟨by rfl, ?_⟩) hHeld ?_ ?_
        rotate_left
        · intro w' hSw
          have y2 := (blk_cell hSw.1 2).trans (show _ = some (.slice B2 j d2) from rfl)
          go_simp
          with_reducible rfl
        rotate_left
        · simp only [Act.put, List.setIfInBounds_toArray, List.set_cons_zero, List.set_cons_succ, i64_w, i32_w]
          rfl
        refine pure_ (i := 2) (N := some 54) (v := ?_) (a' := ?_) #[true, true, true, false, false, false, false, false, false, false, false, false, false, false, false, false] rfl rfl (by kernel_rfl) (fun _ _ _ h => h) (Or.inl ⟨by rfl, ?_⟩) ?_ ?_
        rotate_left
        · intro w'
          go_simp
          with_reducible rfl
        rotate_left
        · simp only [Act.put, List.setIfInBounds_toArray, List.set_cons_zero, List.set_cons_succ, i64_w, i32_w]
          rfl
        refine pure_ (i := 3) (N := some 55) (v := ?_) (a' := ?_) #[true, true, true, true, false, false, false, false, false, false, false, false, false, false, false, false] rfl rfl (by kernel_rfl) (fun _ _ _ h => h) (Or.inl ⟨by rfl, ?_⟩) ?_ ?_
        rotate_left
        · intro w'
          go_simp
          with_reducible rfl
        rotate_left
        · simp only [Act.put, List.setIfInBounds_toArray, List.set_cons_zero, List.set_cons_succ, i64_w, i32_w]
          rfl
        refine take_ (i := 4) (N := some 56) (v := ?_) (a' := ?_) #[true, true, true, true, true, false, false, false, false, false, false, false, false, false, false, false] rfl rfl (by kernel_rfl) (fun _ _ _ h => h) (Or.inl ⟨by rfl, ?_⟩) hHeld ?_ ?_
        rotate_left
        · intro w' hSw
          have z2 := (blk_cell hSw.2.1 2).trans (show _ = some (.slice (some ⟨g7, 0, none⟩) 3 cg7) from rfl)
          go_simp
          with_reducible rfl
        rotate_left
        · simp only [Act.put, List.setIfInBounds_toArray, List.set_cons_zero, List.set_cons_succ, i64_w, i32_w]
          rfl
        refine pure_ (i := 5) (N := some 57) (v := ?_) (a' := ?_) #[true, true, true, true, true, true, false, false, false, false, false, false, false, false, false, false] rfl rfl (by kernel_rfl) (fun _ _ _ h => h) (Or.inl ⟨by rfl, ?_⟩) ?_ ?_
        rotate_left
        · intro w'
          go_simp
          with_reducible rfl
        rotate_left
        · simp only [Act.put, List.setIfInBounds_toArray, List.set_cons_zero, List.set_cons_succ, i64_w, i32_w]
          rfl
        refine take_ (i := 6) (N := some 58) (v := ?_) (a' := ?_) #[true, true, true, true, true, true, true, false, false, false, false, false, false, false, false, false] rfl rfl (by kernel_rfl) (fun _ _ _ h => h) (Or.inl ⟨by rfl, ?_⟩) hHeld ?_ ?_
        rotate_left
        · intro w' hSw
          have e1 := hSw.2.2.1
          go_simp
          with_reducible rfl
        rotate_left
        · simp only [Act.put, List.setIfInBounds_toArray, List.set_cons_zero, List.set_cons_succ, i64_w, i32_w]
          rfl
        refine pure_ (i := 7) (N := some 59) (v := ?_) (a' := ?_) #[true, true, true, true, true, true, true, true, false, false, false, false, false, false, false, false] rfl rfl (by kernel_rfl) (fun _ _ _ h => h) (Or.inl ⟨by rfl, ?_⟩) ?_ ?_
        rotate_left
        · intro w'
          go_simp
          with_reducible rfl
        rotate_left
        · simp only [Act.put, List.setIfInBounds_toArray, List.set_cons_zero, List.set_cons_succ, i64_w, i32_w]
          rfl
        refine take_ (i := 8) (N := some 60) (v := ?_) (a' := ?_) #[true, true, true, true, true, true, true, true, true, false, false, false, false, false, false, false] rfl rfl (by kernel_rfl) (fun _ _ _ h => h) (Or.inl ⟨by rfl, ?_⟩) hHeld ?_ ?_
        rotate_left
        · intro w' hSw
          have z2 := (blk_cell hSw.2.1 2).trans (show _ = some (.slice (some ⟨g7, 0, none⟩) 3 cg7) from rfl)
          go_simp
          with_reducible rfl
        rotate_left
        · simp only [Act.put, List.setIfInBounds_toArray, List.set_cons_zero, List.set_cons_succ, i64_w, i32_w]
          rfl
        refine pure_ (i := 9) (N := some 61) (v := ?_) (a' := ?_) #[true, true, true, true, true, true, true, true, true, true, false, false, false, false, false, false] rfl rfl (by kernel_rfl) (fun _ _ _ h => h) (Or.inl ⟨by rfl, ?_⟩) ?_ ?_
        rotate_left
        · intro w'
          go_simp
          with_reducible rfl
        rotate_left
        · simp only [Act.put, List.setIfInBounds_toArray, List.set_cons_zero, List.set_cons_succ, i64_w, i32_w]
          rfl
        refine take_ (i := 10) (N := some 62) (v := ?_) (a' := ?_) #[true, true, true, true, true, true, true, true, true, true, true, false, false, false, false, false] rfl rfl (by kernel_rfl) (fun _ _ _ h => h) (Or.inl ⟨by rfl, ?_⟩) hHeld ?_ ?_
        rotate_left
        · intro w' hSw
          have e2 := hSw.2.2.2
          go_simp
          with_reducible rfl
        rotate_left
        · simp only [Act.put, List.setIfInBounds_toArray, List.set_cons_zero, List.set_cons_succ, i64_w, i32_w]
          rfl
        refine pure_ (i := 11) (N := some 63) (v := ?_) (a' := ?_) #[true, true, true, true, true, true, true, true, true, true, true, true, false, false, false, false] rfl rfl (by kernel_rfl) (fun _ _ _ h => h) (Or.inl ⟨by rfl, ?_⟩) ?_ ?_
        rotate_left
        · intro w'
          go_simp
          with_reducible rfl
        rotate_left
        · simp only [Act.put, List.setIfInBounds_toArray, List.set_cons_zero, List.set_cons_succ, i64_w, i32_w]
          rfl
        clear hHeld
        refine one_ (i := 12) (N := some 64) #[true, true, true, true, true, true, true, true, true, true, true, true, true, false, false, false] rfl rfl (by kernel_rfl) (by decide) (fun K hK => ?_)
        refine value_ (w1 := ?_) (v := ?_) (by rfl) rfl ?_ ?_
        rotate_left 2
        · go_simp
          constructor
          · rfl
          · rfl
        have hba := below_alloc (Below.refl W9.heap.size W9) (.cells #[.int .i64 (-1), .int .i64 o1, .int .i64 o2] 46)
        have HE := Aside0.mk (HD.out.far hba)
        have HYE := Aside0.mk (blk_below HYD.out hba)
        clear hba
        refine hK.out _ _ (show (W9.alloc (.cells #[.int .i64 (-1), .int .i64 o1, .int .i64 o2] 46)).heap[q4]? = some (.cells #[.int .i64 p, .int .i64 f, .slice B2 j d2, .slice none 0 0, .slice none 0 0] 26 (0, 0)) ∧ (W9.alloc (.cells #[.int .i64 (-1), .int .i64 o1, .int .i64 o2] 46)).heap[q7]? = some (.cells #[a0, a1, .slice (some ⟨g7, 0, none⟩) 3 cg7] 71 (0, 0)) ∧ (W9.alloc (.cells #[.int .i64 (-1), .int .i64 o1, .int .i64 o2] 46)).cell? ⟨g7, 1, none⟩ = some (.int .i64 o1) ∧ (W9.alloc (.cells #[.int .i64 (-1), .int .i64 o1, .int .i64 o2] 46)).cell? ⟨g7, 2, none⟩ = some (.int .i64 o2) from ⟨HE.out.cb, HYE.out, ((HE.out.rows (⟨q7, g7, cg7, 3, l7⟩ : LRow) (List.mem_cons_self ..)).cell (i := 1) (show 1 < 3 by decide)).trans (by rw [show rd (⟨q7, g7, cg7, 3, l7⟩ : LRow).ls ((1 : Nat) : Int) = o1 from EO.out.2.1]), ((HE.out.rows (⟨q7, g7, cg7, 3, l7⟩ : LRow) (List.mem_cons_self ..)).cell (i := 2) (show 2 < 3 by decide)).trans (by rw [show rd (⟨q7, g7, cg7, 3, l7⟩ : LRow).ls ((2 : Nat) : Int) = o2 from EO.out.2.2.1])⟩) (fun hHeld => ?_)
        clear hK K
        refine norm_ (a' := ?_) ?_ ?_
        rotate_left
        · show Act.put _ (some 64) _ = _
          simp only [Act.put, List.setIfInBounds_toArray, List.set_cons_zero, List.set_cons_succ, i64_w, i32_w]
          rfl
        clear hHeld
        refine one_ (i := 13) (N := some 65) #[true, true, true, true, true, true, true, true, true, true, true, true, true, true, false, false] rfl rfl (by kernel_rfl) (by decide) (fun K hK => ?_)
        refine Kd.R_append_step k46 (w0 := w) w.heap.size (by rfl) (.tmp 53) (.tmp 64) 22 46 (.agg #[.int .i64 0, .int .i64 0, .int .i64 0]) 24 rfl Tryd.underlying22 info46 rfl (by decide) (by decide) (.slice B2 j d2) wj (⟨(-1), o1, o2⟩ : S46) [.int .i64 (-1), .int .i64 o1, .int .i64 o2] (fun k => w.heap.size ≤ k) (fun _ => False) rfl rfl ?aP (fun _ hk => hk.elim) ?aF ?aO ?aB ?aS ?aL ?_
        (case aP => exact k46_mkM _ _ _ (⟨(-1), o1, o2⟩ : S46))
        (case aB => exact HD.out.bel)
        (case aF => exact (fun k hk => Nat.le_trans HD.out.bel.size hk))
        (case aO => exact HD.out.o2)
        (case aS => exact HD.out.bel.size)
        (case aL => have := HWL.out; have := HM2.out; omega)
        intro v7 w7 ho hb hg hat
        obtain ⟨wz, hwz⟩ : ∃ z, wj ++ [(⟨(-1), o1, o2⟩ : S46)] = z := ⟨_, rfl⟩
        have HWZ : Aside0 (liR nxW rdW rd0 (j + 1) = wz) := ⟨by rw [← hwz, ENX.out.1, EO.out.2.2.2.1]; rfl⟩
        rw [hwz] at ho
        clear hwz
        obtain ⟨B7, d7, rfl, _, _⟩ := Kd.R_reads ho
        have H10 := Aside0.mk (HD.out.push2 ho hb hg)
        have HY7 := Aside0.mk (blk_grown HYD.out hg (Kd.R_ne HD.out.o2 HYD.out (by decide)))
        clear ho hb hg hat
        refine hK.out _ _ (show w7.heap[q4]? = some (.cells #[.int .i64 p, .int .i64 f, .slice B2 j d2, .slice none 0 0, .slice none 0 0] 26 (0, 0)) ∧ w7.heap[q7]? = some (.cells #[a0, a1, .slice (some ⟨g7, 0, none⟩) 3 cg7] 71 (0, 0)) ∧ w7.cell? ⟨g7, 1, none⟩ = some (.int .i64 o1) ∧ w7.cell? ⟨g7, 2, none⟩ = some (.int .i64 o2) from ⟨H10.out.2.1, HY7.out, ((H10.out.2.2 (⟨q7, g7, cg7, 3, l7⟩ : LRow) (List.mem_cons_self ..)).cell (i := 1) (show 1 < 3 by decide)).trans (by rw [show rd (⟨q7, g7, cg7, 3, l7⟩ : LRow).ls ((1 : Nat) : Int) = o1 from EO.out.2.1]), ((H10.out.2.2 (⟨q7, g7, cg7, 3, l7⟩ : LRow) (List.mem_cons_self ..)).cell (i := 2) (show 2 < 3 by decide)).trans (by rw [show rd (⟨q7, g7, cg7, 3, l7⟩ : LRow).ls ((2 : Nat) : Int) = o2 from EO.out.2.2.1])⟩) (fun hHeld => ?_)
        clear hK K
        refine norm_ (a' := ?_) ?_ ?_
        rotate_left
        · show Act.put _ (some 65) _ = _
          simp only [Act.put, List.setIfInBounds_toArray, List.set_cons_zero, List.set_cons_succ, i64_w, i32_w]
          rfl
        refine pure_ (i := 14) (N := some 66) (v := ?_) (a' := ?_) #[true, true, true, true, true, true, true, true, true, true, true, true, true, true, true, false] rfl rfl (by kernel_rfl) (fun _ _ _ h => h) (Or.inl ⟨by rfl, ?_⟩) ?_ ?_
        rotate_left
        · intro w'
          go_simp
          with_reducible rfl
        rotate_left
        · simp only [Act.put, List.setIfInBounds_toArray, List.set_cons_zero, List.set_cons_succ, i64_w, i32_w]
          rfl
        refine last_ (i := 15) (N := none) #[true, true, true, true, true, true, true, true, true, true, true, true, true, true, true, true] rfl rfl (by kernel_rfl) (by decide) (fun K hK => ?_)
        have y2 := (blk_cell H10.out.2.1 2).trans (show _ = some (.slice B2 j d2) from rfl)
        have yf2 := blk_frozen H10.out.2.1 2
        refine skip_ (w1 := ?_) (by rfl) rfl ?_ ?_
        rotate_left
        · go_simp
          rfl
        refine hK.out _ _ ?_
        clear hK K
        refine done_ (by kernel_rfl) ?_
        go_wp2
        go_roundw
        case rel => exact ⟨j + 1, by go_num, by omega, ⟨⟨A7, c7, _, by rw [HWZ.out, ENX.out.2, EO.out.2.2.2.2]; exact H10.out.1.less (fun l hl => List.mem_cons_of_mem _ hl)⟩⟩⟩
        case measure => simp [intOf]; omega
      · have dd1 : decide (o0 = 255) = false := decide_eq_false hoo
        have dd2 : (o0 == 255) = false := beq_eq_false_iff_ne.mpr hoo
        have HOO := Aside0.mk hoo
        go_upto_region 13 with (first | fail)
        have HD := Aside0.mk (H8.out.far (below_drew (Below.refl W8.heap.size W8)))
        have HYD := Aside0.mk (blk_drew HY.out)
        refine start_ (n := 16) (S := (fun w' => w'.heap[q4]? = some (.cells #[.int .i64 p, .int .i64 f, .slice B2 j d2, .slice none 0 0, .slice none 0 0] 26 (0, 0)) ∧ w'.heap[q7]? = some (.cells #[a0, a1, .slice (some ⟨g7, 0, none⟩) 3 cg7] 71 (0, 0)) ∧ w'.cell? ⟨g7, 1, none⟩ = some (.int .i64 o1) ∧ w'.cell? ⟨g7, 2, none⟩ = some (.int .i64 o2))) (ds := [15]) #[false, false, false, false, false, false, false, false, false, false, false, false, false, false, false, false] (by kernel_rfl) rfl rfl (show W8.drew.heap[q4]? = some (.cells #[.int .i64 p, .int .i64 f, .slice B2 j d2, .slice none 0 0, .slice none 0 0] 26 (0, 0)) ∧ W8.drew.heap[q7]? = some (.cells #[a0, a1, .slice (some ⟨g7, 0, none⟩) 3 cg7] 71 (0, 0)) ∧ W8.drew.cell? ⟨g7, 1, none⟩ = some (.int .i64 o1) ∧ W8.drew.cell? ⟨g7, 2, none⟩ = some (.int .i64 o2) from ⟨HD.out.cb, HYD.out, ((HD.out.rows (⟨q7, g7, cg7, 3, l7⟩ : LRow) (List.mem_cons_self ..)).cell (i := 1) (show 1 < 3 by decide)).trans (by rw [show rd (⟨q7, g7, cg7, 3, l7⟩ : LRow).ls ((1 : Nat) : Int) = o1 from EO.out.2.1]), ((HD.out.rows (⟨q7, g7, cg7, 3, l7⟩ : LRow) (List.mem_cons_self ..)).cell (i := 2) (show 2 < 3 by decide)).trans (by rw [show rd (⟨q7, g7, cg7, 3, l7⟩ : LRow).ls ((2 : Nat) : Int) = o2 from EO.out.2.2.1])⟩) (fun hHeld => ?_)
        generalize W8.drew = W9 at HD HYD hHeld ⊢
        refine pure_ (i := 0) (N := some 52) (v := ?_) (a' := ?_) #[true, false, false, false, false, false, false, false, false, false, false, false, false, false, false, false] rfl rfl (by kernel_rfl) (fun _ _ _ h => h) (Or.inl ⟨by rfl, ?_⟩) ?_ ?_
        rotate_left
        · intro w'
          go_simp
          with_reducible rfl
        rotate_left
        · simp only [Act.put, List.setIfInBounds_toArray, List.set_cons_zero, List.set_cons_succ, i64_w, i32_w]
          rfl
        refine take_ (i := 1) (N := some 53) (v := ?_) (a' := ?_) #[true, true, false, false, false, false, false, false, false, false, false, false, false, false, false, false] rfl rfl (by kernel_rfl) (fun _ _ _ h => h) (Or.inl ⟨by rfl, ?_⟩) hHeld ?_ ?_
        rotate_left
        · intro w' hSw
          have y2 := (blk_cell hSw.1 2).trans (show _ = some (.slice B2 j d2) from rfl)
          go_simp
          with_reducible rfl
        rotate_left
        · simp only [Act.put, List.setIfInBounds_toArray, List.set_cons_zero, List.set_cons_succ, i64_w, i32_w]
          rfl
        refine pure_ (i := 2) (N := some 54) (v := ?_) (a' := ?_) #[true, true, true, false, false, false, false, false, false, false, false, false, false, false, false, false] rfl rfl (by kernel_rfl) (fun _ _ _ h => h) (Or.inl ⟨by rfl, ?_⟩) ?_ ?_
        rotate_left
        · intro w'
          go_simp
          with_reducible rfl
        rotate_left
        · simp only [Act.put, List.setIfInBounds_toArray, List.set_cons_zero, List.set_cons_succ, i64_w, i32_w]
          rfl
        refine pure_ (i := 3) (N := some 55) (v := ?_) (a' := ?_) #[true, true, true, true, false, false, false, false, false, false, false, false, false, false, false, false] rfl rfl (by kernel_rfl) (fun _ _ _ h => h) (Or.inl ⟨by rfl, ?_⟩) ?_ ?_
        rotate_left
        · intro w'
          go_simp
          with_reducible rfl
        rotate_left
        · simp only [Act.put, List.setIfInBounds_toArray, List.set_cons_zero, List.set_cons_succ, i64_w, i32_w]
          rfl
        refine take_ (i := 4) (N := some 56) (v := ?_) (a' := ?_) #[true, true, true, true, true, false, false, false, false, false, false, false, false, false, false, false] rfl rfl (by kernel_rfl) (fun _ _ _ h => h) (Or.inl ⟨by rfl, ?_⟩) hHeld ?_ ?_
        rotate_left
        · intro w' hSw
          have z2 := (blk_cell hSw.2.1 2).trans (show _ = some (.slice (some ⟨g7, 0, none⟩) 3 cg7) from rfl)
          go_simp
          with_reducible rfl
        rotate_left
        · simp only [Act.put, List.setIfInBounds_toArray, List.set_cons_zero, List.set_cons_succ, i64_w, i32_w]
          rfl
        refine pure_ (i := 5) (N := some 57) (v := ?_) (a' := ?_) #[true, true, true, true, true, true, false, false, false, false, false, false, false, false, false, false] rfl rfl (by kernel_rfl) (fun _ _ _ h => h) (Or.inl ⟨by rfl, ?_⟩) ?_ ?_
        rotate_left
        · intro w'
          go_simp
          with_reducible rfl
        rotate_left
        · simp only [Act.put, List.setIfInBounds_toArray, List.set_cons_zero, List.set_cons_succ, i64_w, i32_w]
          rfl
        refine take_ (i := 6) (N := some 58) (v := ?_) (a' := ?_) #[true, true, true, true, true, true, true, false, false, false, false, false, false, false, false, false] rfl rfl (by kernel_rfl) (fun _ _ _ h => h) (Or.inl ⟨by rfl, ?_⟩) hHeld ?_ ?_
        rotate_left
        · intro w' hSw
          have e1 := hSw.2.2.1
          go_simp
          with_reducible rfl
        rotate_left
        · simp only [Act.put, List.setIfInBounds_toArray, List.set_cons_zero, List.set_cons_succ, i64_w, i32_w]
          rfl
        refine pure_ (i := 7) (N := some 59) (v := ?_) (a' := ?_) #[true, true, true, true, true, true, true, true, false, false, false, false, false, false, false, false] rfl rfl (by kernel_rfl) (fun _ _ _ h => h) (Or.inl ⟨by rfl, ?_⟩) ?_ ?_
        rotate_left
        · intro w'
          go_simp
          with_reducible rfl
        rotate_left
        · simp only [Act.put, List.setIfInBounds_toArray, List.set_cons_zero, List.set_cons_succ, i64_w, i32_w]
          rfl
        refine take_ (i := 8) (N := some 60) (v := ?_) (a' := ?_) #[true, true, true, true, true, true, true, true, true, false, false, false, false, false, false, false] rfl rfl (by kernel_rfl) (fun _ _ _ h => h) (Or.inl ⟨by rfl, ?_⟩) hHeld ?_ ?_
        rotate_left
        · intro w' hSw
          have z2 := (blk_cell hSw.2.1 2).trans (show _ = some (.slice (some ⟨g7, 0, none⟩) 3 cg7) from rfl)
          go_simp
          with_reducible rfl
        rotate_left
        · simp only [Act.put, List.setIfInBounds_toArray, List.set_cons_zero, List.set_cons_succ, i64_w, i32_w]
          rfl
        refine pure_ (i := 9) (N := some 61) (v := ?_) (a' := ?_) #[true, true, true, true, true, true, true, true, true, true, false, false, false, false, false, false] rfl rfl (by kernel_rfl) (fun _ _ _ h => h) (Or.inl ⟨by rfl, ?_⟩) ?_ ?_
        rotate_left
        · intro w'
          go_simp
          with_reducible rfl
        rotate_left
        · simp only [Act.put, List.setIfInBounds_toArray, List.set_cons_zero, List.set_cons_succ, i64_w, i32_w]
          rfl
        refine take_ (i := 10) (N := some 62) (v := ?_) (a' := ?_) #[true, true, true, true, true, true, true, true, true, true, true, false, false, false, false, false] rfl rfl (by kernel_rfl) (fun _ _ _ h => h) (Or.inl ⟨by rfl, ?_⟩) hHeld ?_ ?_
        rotate_left
        · intro w' hSw
          have e2 := hSw.2.2.2
          go_simp
          with_reducible rfl
        rotate_left
        · simp only [Act.put, List.setIfInBounds_toArray, List.set_cons_zero, List.set_cons_succ, i64_w, i32_w]
          rfl
        refine pure_ (i := 11) (N := some 63) (v := ?_) (a' := ?_) #[true, true, true, true, true, true, true, true, true, true, true, true, false, false, false, false] rfl rfl (by kernel_rfl) (fun _ _ _ h => h) (Or.inl ⟨by rfl, ?_⟩) ?_ ?_
        rotate_left
        · intro w'
          go_simp
          with_reducible rfl
        rotate_left
        · simp only [Act.put, List.setIfInBounds_toArray, List.set_cons_zero, List.set_cons_succ, i64_w, i32_w]
          rfl
        clear hHeld
        refine one_ (i := 12) (N := some 64) #[true, true, true, true, true, true, true, true, true, true, true, true, true, false, false, false] rfl rfl (by kernel_rfl) (by decide) (fun K hK => ?_)
        refine value_ (w1 := ?_) (v := ?_) (by rfl) rfl ?_ ?_
        rotate_left 2
        · go_simp
          constructor
          · rfl
          · rfl
        have hba := below_alloc (Below.refl W9.heap.size W9) (.cells #[.int .i64 o0, .int .i64 o1, .int .i64 o2] 46)
        have HE := Aside0.mk (HD.out.far hba)
        have HYE := Aside0.mk (blk_below HYD.out hba)
        clear hba
        refine hK.out _ _ (show (W9.alloc (.cells #[.int .i64 o0, .int .i64 o1, .int .i64 o2] 46)).heap[q4]? = some (.cells #[.int .i64 p, .int .i64 f, .slice B2 j d2, .slice none 0 0, .slice none 0 0] 26 (0, 0)) ∧ (W9.alloc (.cells #[.int .i64 o0, .int .i64 o1, .int .i64 o2] 46)).heap[q7]? = some (.cells #[a0, a1, .slice (some ⟨g7, 0, none⟩) 3 cg7] 71 (0, 0)) ∧ (W9.alloc (.cells #[.int .i64 o0, .int .i64 o1, .int .i64 o2] 46)).cell? ⟨g7, 1, none⟩ = some (.int .i64 o1) ∧ (W9.alloc (.cells #[.int .i64 o0, .int .i64 o1, .int .i64 o2] 46)).cell? ⟨g7, 2, none⟩ = some (.int .i64 o2) from ⟨HE.out.cb, HYE.out, ((HE.out.rows (⟨q7, g7, cg7, 3, l7⟩ : LRow) (List.mem_cons_self ..)).cell (i := 1) (show 1 < 3 by decide)).trans (by rw [show rd (⟨q7, g7, cg7, 3, l7⟩ : LRow).ls ((1 : Nat) : Int) = o1 from EO.out.2.1]), ((HE.out.rows (⟨q7, g7, cg7, 3, l7⟩ : LRow) (List.mem_cons_self ..)).cell (i := 2) (show 2 < 3 by decide)).trans (by rw [show rd (⟨q7, g7, cg7, 3, l7⟩ : LRow).ls ((2 : Nat) : Int) = o2 from EO.out.2.2.1])⟩) (fun hHeld => ?_)
        clear hK K
        refine norm_ (a' := ?_) ?_ ?_
        rotate_left
        · show Act.put _ (some 64) _ = _
          simp only [Act.put, List.setIfInBounds_toArray, List.set_cons_zero, List.set_cons_succ, i64_w, i32_w]
          rfl
        clear hHeld
        refine one_ (i := 13) (N := some 65) #[true, true, true, true, true, true, true, true, true, true, true, true, true, true, false, false] rfl rfl (by kernel_rfl) (by decide) (fun K hK => ?_)
        refine Kd.R_append_step k46 (w0 := w) w.heap.size (by rfl) (.tmp 53) (.tmp 64) 22 46 (.agg #[.int .i64 0, .int .i64 0, .int .i64 0]) 24 rfl Tryd.underlying22 info46 rfl (by decide) (by decide) (.slice B2 j d2) wj (⟨o0, o1, o2⟩ : S46) [.int .i64 o0, .int .i64 o1, .int .i64 o2] (fun k => w.heap.size ≤ k) (fun _ => False) rfl rfl ?aP (fun _ hk => hk.elim) ?aF ?aO ?aB ?aS ?aL ?_
        (case aP => exact k46_mkM _ _ _ (⟨o0, o1, o2⟩ : S46))
        (case aB => exact HD.out.bel)
        (case aF => exact (fun k hk => Nat.le_trans HD.out.bel.size hk))
        (case aO => exact HD.out.o2)
        (case aS => exact HD.out.bel.size)
        (case aL => have := HWL.out; have := HM2.out; omega)
        intro v7 w7 ho hb hg hat
        obtain ⟨wz, hwz⟩ : ∃ z, wj ++ [(⟨o0, o1, o2⟩ : S46)] = z := ⟨_, rfl⟩
        have HWZ : Aside0 (liR nxW rdW rd0 (j + 1) = wz) := ⟨by rw [← hwz, ENX.out.1, EO.out.2.2.2.1]; rw [show ownR o0 = o0 by unfold ownR; rw [if_neg HOO.out]]⟩
        rw [hwz] at ho
        clear hwz
        obtain ⟨B7, d7, rfl, _, _⟩ := Kd.R_reads ho
        have H10 := Aside0.mk (HD.out.push2 ho hb hg)
        have HY7 := Aside0.mk (blk_grown HYD.out hg (Kd.R_ne HD.out.o2 HYD.out (by decide)))
        clear ho hb hg hat
        refine hK.out _ _ (show w7.heap[q4]? = some (.cells #[.int .i64 p, .int .i64 f, .slice B2 j d2, .slice none 0 0, .slice none 0 0] 26 (0, 0)) ∧ w7.heap[q7]? = some (.cells #[a0, a1, .slice (some ⟨g7, 0, none⟩) 3 cg7] 71 (0, 0)) ∧ w7.cell? ⟨g7, 1, none⟩ = some (.int .i64 o1) ∧ w7.cell? ⟨g7, 2, none⟩ = some (.int .i64 o2) from ⟨H10.out.2.1, HY7.out, ((H10.out.2.2 (⟨q7, g7, cg7, 3, l7⟩ : LRow) (List.mem_cons_self ..)).cell (i := 1) (show 1 < 3 by decide)).trans (by rw [show rd (⟨q7, g7, cg7, 3, l7⟩ : LRow).ls ((1 : Nat) : Int) = o1 from EO.out.2.1]), ((H10.out.2.2 (⟨q7, g7, cg7, 3, l7⟩ : LRow) (List.mem_cons_self ..)).cell (i := 2) (show 2 < 3 by decide)).trans (by rw [show rd (⟨q7, g7, cg7, 3, l7⟩ : LRow).ls ((2 : Nat) : Int) = o2 from EO.out.2.2.1])⟩) (fun hHeld => ?_)
        clear hK K
        refine norm_ (a' := ?_) ?_ ?_
        rotate_left
        · show Act.put _ (some 65) _ = _
          simp only [Act.put, List.setIfInBounds_toArray, List.set_cons_zero, List.set_cons_succ, i64_w, i32_w]
          rfl
        refine pure_ (i := 14) (N := some 66) (v := ?_) (a' := ?_) #[true, true, true, true, true, true, true, true, true, true, true, true, true, true, true, false] rfl rfl (by kernel_rfl) (fun _ _ _ h => h) (Or.inl ⟨by rfl, ?_⟩) ?_ ?_
        rotate_left
        · intro w'
          go_simp
          with_reducible rfl
        rotate_left
        · simp only [Act.put, List.setIfInBounds_toArray, List.set_cons_zero, List.set_cons_succ, i64_w, i32_w]
          rfl
        refine last_ (i := 15) (N := none) #[true, true, true, true, true, true, true, true, true, true, true, true, true, true, true, true] rfl rfl (by kernel_rfl) (by decide) (fun K hK => ?_)
        have y2 := (blk_cell H10.out.2.1 2).trans (show _ = some (.slice B2 j d2) from rfl)
        have yf2 := blk_frozen H10.out.2.1 2
        refine skip_ (w1 := ?_) (by rfl) rfl ?_ ?_
        rotate_left
        · go_simp
          rfl
        refine hK.out _ _ ?_
        clear hK K
        refine done_ (by kernel_rfl) ?_
        go_wp2
        go_roundw
        case rel => exact ⟨j + 1, by go_num, by omega, ⟨⟨A7, c7, _, by rw [HWZ.out, ENX.out.2, EO.out.2.2.2.2]; exact H10.out.1.less (fun l hl => List.mem_cons_of_mem _ hl)⟩⟩⟩
        case measure => simp [intOf]; omega
    ·
      have HW_rd0 := HWD
      have d1 : decide ((j : Int) < (m2 : Int)) = false := decide_eq_false (by omega)
      have d1n : decide (j < m2) = false := decide_eq_false hlt
      obtain rfl : m2 = j := by omega
      obtain ⟨ws, hws⟩ : ∃ x, liR nxW rdW rd0 m2 = x := ⟨_, rfl⟩
      obtain ⟨r2, hr2⟩ : ∃ x, itR nxW rd0 m2 = x := ⟨_, rfl⟩
      rw [hws, hr2] at H
      rw [hr2] at x0 x1
      have HWr2 : Aside0 (Wi.WF r2.b) := ⟨by rw [← hr2]; exact itR_wf (fun _ h => nx_wf h) HW_rd0.out m2⟩
      have HLWws : Aside0 (ws.length = m2) := ⟨by rw [← hws]; exact liR_len m2⟩
      have E_ws := Aside0.mk hws
      have E_r2 := Aside0.mk hr2
      clear hws hr2
      have hb1 := nextV1_bd HWr2.out
      obtain ⟨m3, hm3⟩ : ∃ x, (Wi.nextV r2 1).toNat = x := ⟨_, rfl⟩
      have Hm3 : Aside0 (m3 ≤ 255) := ⟨by omega⟩
      have EIm3 : Aside0 (Wi.nextV r2 1 = (m3 : Int)) := ⟨by omega⟩
      have E_m3 := Aside0.mk hm3
      clear hb1 hm3
      go_upto_region 14 with (first | fail)
      clear x2 e2
      go_upto_region 15 with (first | ((with_reducible refine gate_dst (N := 70) rfl ?_); refine Wi.lit_ints (k := .i64) (e := 3) ?hg (N := 70) ?hd [1] #[.int .i64 1] ?hr ?hi ?hm ?_; (case hd => rfl); (case hg => rfl); (case hr => first | (go_simp; done) | (go_simp; rfl)); (case hi => rfl); (case hm => simp); intro D wl hC hO; have HC : Aside0 (Wi.CI .i64 wl D 1 [1]) := ⟨hC⟩; have HL := Aside0.mk (H.out.far hO.bel); have TKC := Aside0.mk (take_lit (n := 1) H.out.ci HWr2.out (below_step HB0.out (below_step H.out.bel hO.bel)) HC.out (by decide) rfl (by decide)); clear hC hO HC x0 x1) | (go_at_call 40; (with_reducible refine TKC.out.mono ?_); rintro e w5 ⟨Am, cm, gm, cgm, rfl, hc5, ho5, hg5⟩; have H5 := Aside0.mk (And.intro hc5 (And.intro ho5 hg5)); clear hc5 ho5 hg5 TKC))
      have h7 := And.intro (HL.out.more (a0 := .slice Am (nx r2 [1]).b.length cm) (a1 := .int .i64 (nx r2 [1]).e) H5.out.2.1 H5.out.2.2) (And.intro (blk_new w5 (.cells #[.slice Am (nx r2 [1]).b.length cm, .int .i64 (nx r2 [1]).e, .slice (some ⟨gm, 0, none⟩) 1 cgm] 71)) H5.out.1)
      have H7 := Aside0.mk h7
      clear h7 HL H5
      generalize (w5.alloc (.cells #[.slice Am (nx r2 [1]).b.length cm, .int .i64 (nx r2 [1]).e, .slice (some ⟨gm, 0, none⟩) 1 cgm] 71)) = W7 at H7 ⊢
      generalize w5.heap.size = qm at H7 ⊢
      obtain ⟨rnm, hrn⟩ : ∃ x, nx r2 [1] = x := ⟨_, rfl⟩
      obtain ⟨lm, hl7⟩ : ∃ x, vl r2 [1] = x := ⟨_, rfl⟩
      rw [hrn, hl7] at H7
      rw [hrn] at ⊢
      have ERNm := Aside0.mk hrn
      have ELm := Aside0.mk hl7
      clear hrn hl7
      clear H
      have z0 := (blk_cell H7.out.2.1 0).trans (show _ = some (.slice Am rnm.b.length cm) from rfl)
      have z1 := (blk_cell H7.out.2.1 1).trans (show _ = some (.int .i64 rnm.e) from rfl)
      have x0 := (blk_cell H7.out.1.xb 0).trans (show _ = some (.slice A1 r2.b.length c1) from rfl)
      have x1 := (blk_cell H7.out.1.xb 1).trans (show _ = some (.int .i64 r2.e) from rfl)
      have xf0 := blk_frozen H7.out.1.xb 0
      have xf1 := blk_frozen H7.out.1.xb 1
      go_upto_region 16 with (first | fail)
      have H8 := Aside0.mk (H7.out.1.putX H7.out.2.2)
      clear z0 z1 x0 x1 xf0 xf1 H7
      generalize ((W7.setCell ⟨q5, 0, none⟩ (.slice Am rnm.b.length cm)).setCell ⟨q5, 1, none⟩ (.int .i64 rnm.e)) = W8 at H8 ⊢
      have ELM : Aside0 (rd lm (0 : Nat) = (m3 : Int)) := ⟨by rw [← ELm.out, ← EIm3.out]; rfl⟩
      have HW_rnm : Aside0 (Wi.WF rnm.b) := ⟨by rw [← ERNm.out]; exact nx_wf HWr2.out⟩
      have H9 := Aside0.mk (H8.out.less (L' := [(⟨qm, gm, cgm, 1, lm⟩ : LRow)]) (fun l hl => by rw [List.mem_singleton.1 hl]; exact List.mem_cons_self ..))
      clear H8
      go_wp2
      go_loopw [10] (fun v10 wr => ∃ j : Nat, v10 = .int .i64 j ∧ j ≤ m3 ∧ Aside0 (∃ (A1 : Option Addr) (c1 : Nat) (v3 : Value), RB wb w wr q2 q3 q4 q5 A1 c1 (itR nxK rnm j) (.slice (some ⟨g5, 0, none⟩) 3 cg5) p f (.slice B2 m2 d2) v3 (.slice none 0 0) ws (liR nxK rdK rnm j) [] [(⟨qm, gm, cgm, 1, lm⟩ : LRow)])) (fun v10 _ => m3 - (intOf v10).toNat)
      case atStart => exact ⟨0, rfl, by omega, ⟨⟨_, _, _, H9.out⟩⟩⟩
      case round =>
        clear H9 d1 d1n hlt hj
        rename_i wr2 gv10
        obtain ⟨j, rfl, hj, HJ⟩ := hrel
        obtain ⟨A1, c1, v3, hR⟩ := HJ.out
        obtain ⟨B3, d3, rfl, _, _⟩ := Kd.R_reads hR.o3
        have hll := liR_len (f := nxK) (g := rdK) (r := rnm) j
        rw [hll] at hR
        have H := Aside0.mk hR
        clear hR HJ hll
        obtain ⟨b0, b1, hYM⟩ := (H.out.rows (⟨qm, gm, cgm, 1, lm⟩ : LRow) (List.mem_singleton.2 rfl)).bk
        simp only [] at hYM
        have z2 := (blk_cell hYM 2).trans (show _ = some (.slice (some ⟨gm, 0, none⟩) 1 cgm) from rfl)
        clear hYM
        have e0 : wr.cell? ⟨gm, 0, none⟩ = some (.int .i64 (m3 : Int)) := ((H.out.rows (⟨qm, gm, cgm, 1, lm⟩ : LRow) (List.mem_singleton.2 rfl)).cell (i := 0) (show 0 < 1 by decide)).trans (by rw [show rd (⟨qm, gm, cgm, 1, lm⟩ : LRow).ls ((0 : Nat) : Int) = (m3 : Int) from ELM.out])
        have x0 := (blk_cell H.out.xb 0).trans (show _ = some (.slice A1 (itR nxK rnm j).b.length c1) from rfl)
        have x1 := (blk_cell H.out.xb 1).trans (show _ = some (.int .i64 (itR nxK rnm j).e) from rfl)
        have hmb : m3 ≤ 255 := Hm3.out
        by_cases hlt : j < m3
        ·
          have d1 : decide ((j : Int) < (m3 : Int)) = true := decide_eq_true (by omega)
          have d1n : decide (j < m3) = true := decide_eq_true hlt
          have HWJ : Aside0 (Wi.WF (itR nxK rnm j).b) := ⟨itR_wf (fun _ h => nx_wf h) HW_rnm.out j⟩
          obtain ⟨wj, hwj⟩ : ∃ x, liR nxK rdK rnm j = x := ⟨_, rfl⟩
          have ENX : Aside0 (liR nxK rdK rnm (j + 1) = wj ++ [rdK (itR nxK rnm j)] ∧ itR nxK rnm (j + 1) = nxK (itR nxK rnm j)) := ⟨by rw [← hwj]; exact ⟨rfl, rfl⟩⟩
          have HWL : Aside0 (wj.length = j) := ⟨by rw [← hwj]; exact liR_len j⟩
          rw [hwj] at H
          clear hwj
          generalize itR nxK rnm j = rj at H HWJ ENX x0 x1
          go_upto_region 19 with (first | fail)
          clear z2 e0
          go_upto_region 20 with (first | ((with_reducible refine gate_dst (N := 86) rfl ?_); refine Wi.lit_ints (k := .i64) (e := 3) ?hg (N := 86) ?hd [1, 1, 1, 1, 4, 1, 1, 1, 4, 1, 1] #[.int .i64 1, .int .i64 1, .int .i64 1, .int .i64 1, .int .i64 4, .int .i64 1, .int .i64 1, .int .i64 1, .int .i64 4, .int .i64 1, .int .i64 1] ?hr ?hi ?hm ?_; (case hd => rfl); (case hg => rfl); (case hr => first | (go_simp; done) | (go_simp; rfl)); (case hi => rfl); (case hm => simp); intro D wl hC hO; have HC : Aside0 (Wi.CI .i64 wl D 11 [1, 1, 1, 1, 4, 1, 1, 1, 4, 1, 1]) := ⟨hC⟩; have HL := Aside0.mk (H.out.far hO.bel); have TKC := Aside0.mk (take_lit (n := 11) H.out.ci HWJ.out (below_step HB0.out (below_step H.out.bel hO.bel)) HC.out (by decide) rfl (by decide)); clear hC hO HC x0 x1) | (go_at_call 40; (with_reducible refine TKC.out.mono ?_); rintro e w5 ⟨A7, c7, g7, cg7, rfl, hc5, ho5, hg5⟩; have H5 := Aside0.mk (And.intro hc5 (And.intro ho5 hg5)); clear hc5 ho5 hg5 TKC))
          have h7 := And.intro (HL.out.more (a0 := .slice A7 (nx rj [1, 1, 1, 1, 4, 1, 1, 1, 4, 1, 1]).b.length c7) (a1 := .int .i64 (nx rj [1, 1, 1, 1, 4, 1, 1, 1, 4, 1, 1]).e) H5.out.2.1 H5.out.2.2) (And.intro (blk_new w5 (.cells #[.slice A7 (nx rj [1, 1, 1, 1, 4, 1, 1, 1, 4, 1, 1]).b.length c7, .int .i64 (nx rj [1, 1, 1, 1, 4, 1, 1, 1, 4, 1, 1]).e, .slice (some ⟨g7, 0, none⟩) 11 cg7] 71)) H5.out.1)
          have H7 := Aside0.mk h7
          clear h7 HL H5
          generalize (w5.alloc (.cells #[.slice A7 (nx rj [1, 1, 1, 1, 4, 1, 1, 1, 4, 1, 1]).b.length c7, .int .i64 (nx rj [1, 1, 1, 1, 4, 1, 1, 1, 4, 1, 1]).e, .slice (some ⟨g7, 0, none⟩) 11 cg7] 71)) = W7 at H7 ⊢
          generalize w5.heap.size = q7 at H7 ⊢
          obtain ⟨rn7, hrn⟩ : ∃ x, nx rj [1, 1, 1, 1, 4, 1, 1, 1, 4, 1, 1] = x := ⟨_, rfl⟩
          obtain ⟨l7, hl7⟩ : ∃ x, vl rj [1, 1, 1, 1, 4, 1, 1, 1, 4, 1, 1] = x := ⟨_, rfl⟩
          rw [hrn, hl7] at H7
          rw [hrn] at ⊢
          have ERN7 := Aside0.mk hrn
          have EL7 := Aside0.mk hl7
          clear hrn hl7
          clear H
          have z0 := (blk_cell H7.out.2.1 0).trans (show _ = some (.slice A7 rn7.b.length c7) from rfl)
          have z1 := (blk_cell H7.out.2.1 1).trans (show _ = some (.int .i64 rn7.e) from rfl)
          have x0 := (blk_cell H7.out.1.xb 0).trans (show _ = some (.slice A1 rj.b.length c1) from rfl)
          have x1 := (blk_cell H7.out.1.xb 1).trans (show _ = some (.int .i64 rj.e) from rfl)
          have xf0 := blk_frozen H7.out.1.xb 0
          have xf1 := blk_frozen H7.out.1.xb 1
          go_upto_region 21 with (first | fail)
          have H8 := Aside0.mk (H7.out.1.putX H7.out.2.2)
          clear z0 z1 x0 x1 xf0 xf1 H7
          generalize ((W7.setCell ⟨q5, 0, none⟩ (.slice A7 rn7.b.length c7)).setCell ⟨q5, 1, none⟩ (.int .i64 rn7.e)) = W8 at H8 ⊢
          obtain ⟨o0, ho0⟩ : ∃ x, Wi.nextV (nx rj []) 1 = x := ⟨_, rfl⟩
          obtain ⟨o1, ho1⟩ : ∃ x, Wi.nextV (nx rj [1]) 1 = x := ⟨_, rfl⟩
          obtain ⟨o2, ho2⟩ : ∃ x, Wi.nextV (nx rj [1, 1]) 1 = x := ⟨_, rfl⟩
          obtain ⟨o3, ho3⟩ : ∃ x, Wi.nextV (nx rj [1, 1, 1]) 1 = x := ⟨_, rfl⟩
          obtain ⟨o4, ho4⟩ : ∃ x, Wi.nextV (nx rj [1, 1, 1, 1]) 4 = x := ⟨_, rfl⟩
          obtain ⟨o5, ho5⟩ : ∃ x, Wi.nextV (nx rj [1, 1, 1, 1, 4]) 1 = x := ⟨_, rfl⟩
          obtain ⟨o6, ho6⟩ : ∃ x, Wi.nextV (nx rj [1, 1, 1, 1, 4, 1]) 1 = x := ⟨_, rfl⟩
          obtain ⟨o7, ho7⟩ : ∃ x, Wi.nextV (nx rj [1, 1, 1, 1, 4, 1, 1]) 1 = x := ⟨_, rfl⟩
          obtain ⟨o8, ho8⟩ : ∃ x, Wi.nextV (nx rj [1, 1, 1, 1, 4, 1, 1, 1]) 4 = x := ⟨_, rfl⟩
          obtain ⟨o9, ho9⟩ : ∃ x, Wi.nextV (nx rj [1, 1, 1, 1, 4, 1, 1, 1, 4]) 1 = x := ⟨_, rfl⟩
          obtain ⟨o10, ho10⟩ : ∃ x, Wi.nextV (nx rj [1, 1, 1, 1, 4, 1, 1, 1, 4, 1]) 1 = x := ⟨_, rfl⟩
          have EO : Aside0 (rd l7 (0 : Nat) = o0 ∧ rd l7 (1 : Nat) = o1 ∧ rd l7 (2 : Nat) = o2 ∧ rd l7 (3 : Nat) = o3 ∧ rd l7 (4 : Nat) = o4 ∧ rd l7 (5 : Nat) = o5 ∧ rd l7 (6 : Nat) = o6 ∧ rd l7 (7 : Nat) = o7 ∧ rd l7 (8 : Nat) = o8 ∧ rd l7 (9 : Nat) = o9 ∧ rd l7 (10 : Nat) = o10 ∧ rdK rj = ⟨o0, o1, o2, o3, o4, o5, o6, o7, o8, o9, o10⟩ ∧ nxK rj = rn7) := ⟨by rw [← EL7.out, ← ho0, ← ho1, ← ho2, ← ho3, ← ho4, ← ho5, ← ho6, ← ho7, ← ho8, ← ho9, ← ho10]; exact ⟨rfl, rfl, rfl, rfl, rfl, rfl, rfl, rfl, rfl, rfl, rfl, rfl, ERN7.out⟩⟩
          clear ho0 ho1 ho2 ho3 ho4 ho5 ho6 ho7 ho8 ho9 ho10 EL7 ERN7
          obtain ⟨a0, a1, hY⟩ := (H8.out.rows (⟨q7, g7, cg7, 11, l7⟩ : LRow) (List.mem_cons_self ..)).bk
          simp only [] at hY
          have z2 := (blk_cell hY 2).trans (show _ = some (.slice (some ⟨g7, 0, none⟩) 11 cg7) from rfl)
          clear hY
          go_upto_region 22 with (first | fail)
          clear z2
          have HD := Aside0.mk (H8.out.far (below_drew (Below.refl W8.heap.size W8)))
          refine start_ (n := 40) (S := (fun w' => w'.heap[q4]? = some (.cells #[.int .i64 p, .int .i64 f, .slice B2 m2 d2, .slice B3 j d3, .slice none 0 0] 26 (0, 0)) ∧ w'.cell? ⟨g7, 0, none⟩ = some (.int .i64 o0) ∧ w'.cell? ⟨g7, 1, none⟩ = some (.int .i64 o1) ∧ w'.cell? ⟨g7, 2, none⟩ = some (.int .i64 o2) ∧ w'.cell? ⟨g7, 3, none⟩ = some (.int .i64 o3) ∧ w'.cell? ⟨g7, 4, none⟩ = some (.int .i64 o4) ∧ w'.cell? ⟨g7, 5, none⟩ = some (.int .i64 o5) ∧ w'.cell? ⟨g7, 6, none⟩ = some (.int .i64 o6) ∧ w'.cell? ⟨g7, 7, none⟩ = some (.int .i64 o7) ∧ w'.cell? ⟨g7, 8, none⟩ = some (.int .i64 o8) ∧ w'.cell? ⟨g7, 9, none⟩ = some (.int .i64 o9) ∧ w'.cell? ⟨g7, 10, none⟩ = some (.int .i64 o10))) (ds := [39]) #[false, false, false, false, false, false, false, false, false, false, false, false, false, false, false, false, false, false, false, false, false, false, false, false, false, false, false, false, false, false, false, false, false, false, false, false, false, false, false, false] (by kernel_rfl) rfl rfl (show W8.drew.heap[q4]? = some (.cells #[.int .i64 p, .int .i64 f, .slice B2 m2 d2, .slice B3 j d3, .slice none 0 0] 26 (0, 0)) ∧ W8.drew.cell? ⟨g7, 0, none⟩ = some (.int .i64 o0) ∧ W8.drew.cell? ⟨g7, 1, none⟩ = some (.int .i64 o1) ∧ W8.drew.cell? ⟨g7, 2, none⟩ = some (.int .i64 o2) ∧ W8.drew.cell? ⟨g7, 3, none⟩ = some (.int .i64 o3) ∧ W8.drew.cell? ⟨g7, 4, none⟩ = some (.int .i64 o4) ∧ W8.drew.cell? ⟨g7, 5, none⟩ = some (.int .i64 o5) ∧ W8.drew.cell? ⟨g7, 6, none⟩ = some (.int .i64 o6) ∧ W8.drew.cell? ⟨g7, 7, none⟩ = some (.int .i64 o7) ∧ W8.drew.cell? ⟨g7, 8, none⟩ = some (.int .i64 o8) ∧ W8.drew.cell? ⟨g7, 9, none⟩ = some (.int .i64 o9) ∧ W8.drew.cell? ⟨g7, 10, none⟩ = some (.int .i64 o10) from ⟨HD.out.cb, ((HD.out.rows (⟨q7, g7, cg7, 11, l7⟩ : LRow) (List.mem_cons_self ..)).cell (i := 0) (show 0 < 11 by decide)).trans (by rw [show rd (⟨q7, g7, cg7, 11, l7⟩ : LRow).ls ((0 : Nat) : Int) = o0 from EO.out.1]), ((HD.out.rows (⟨q7, g7, cg7, 11, l7⟩ : LRow) (List.mem_cons_self ..)).cell (i := 1) (show 1 < 11 by decide)).trans (by rw [show rd (⟨q7, g7, cg7, 11, l7⟩ : LRow).ls ((1 : Nat) : Int) = o1 from EO.out.2.1]), ((HD.out.rows (⟨q7, g7, cg7, 11, l7⟩ : LRow) (List.mem_cons_self ..)).cell (i := 2) (show 2 < 11 by decide)).trans (by rw [show rd (⟨q7, g7, cg7, 11, l7⟩ : LRow).ls ((2 : Nat) : Int) = o2 from EO.out.2.2.1]), ((HD.out.rows (⟨q7, g7, cg7, 11, l7⟩ : LRow) (List.mem_cons_self ..)).cell (i := 3) (show 3 < 11 by decide)).trans (by rw [show rd (⟨q7, g7, cg7, 11, l7⟩ : LRow).ls ((3 : Nat) : Int) = o3 from EO.out.2.2.2.1]), ((HD.out.rows (⟨q7, g7, cg7, 11, l7⟩ : LRow) (List.mem_cons_self ..)).cell (i := 4) (show 4 < 11 by decide)).trans (by rw [show rd (⟨q7, g7, cg7, 11, l7⟩ : LRow).ls ((4 : Nat) : Int) = o4 from EO.out.2.2.2.2.1]), ((HD.out.rows (⟨q7, g7, cg7, 11, l7⟩ : LRow) (List.mem_cons_self ..)).cell (i := 5) (show 5 < 11 by decide)).trans (by rw [show rd (⟨q7, g7, cg7, 11, l7⟩ : LRow).ls ((5 : Nat) : Int) = o5 from EO.out.2.2.2.2.2.1]), ((HD.out.rows (⟨q7, g7, cg7, 11, l7⟩ : LRow) (List.mem_cons_self ..)).cell (i := 6) (show 6 < 11 by decide)).trans (by rw [show rd (⟨q7, g7, cg7, 11, l7⟩ : LRow).ls ((6 : Nat) : Int) = o6 from EO.out.2.2.2.2.2.2.1]), ((HD.out.rows (⟨q7, g7, cg7, 11, l7⟩ : LRow) (List.mem_cons_self ..)).cell (i := 7) (show 7 < 11 by decide)).trans (by rw [show rd (⟨q7, g7, cg7, 11, l7⟩ : LRow).ls ((7 : Nat) : Int) = o7 from EO.out.2.2.2.2.2.2.2.1]), ((HD.out.rows (⟨q7, g7, cg7, 11, l7⟩ : LRow) (List.mem_cons_self ..)).cell (i := 8) (show 8 < 11 by decide)).trans (by rw [show rd (⟨q7, g7, cg7, 11, l7⟩ : LRow).ls ((8 : Nat) : Int) = o8 from EO.out.2.2.2.2.2.2.2.2.1]), ((HD.out.rows (⟨q7, g7, cg7, 11, l7⟩ : LRow) (List.mem_cons_self ..)).cell (i := 9) (show 9 < 11 by decide)).trans (by rw [show rd (⟨q7, g7, cg7, 11, l7⟩ : LRow).ls ((9 : Nat) : Int) = o9 from EO.out.2.2.2.2.2.2.2.2.2.1]), ((HD.out.rows (⟨q7, g7, cg7, 11, l7⟩ : LRow) (List.mem_cons_self ..)).cell (i := 10) (show 10 < 11 by decide)).trans (by rw [show rd (⟨q7, g7, cg7, 11, l7⟩ : LRow).ls ((10 : Nat) : Int) = o10 from EO.out.2.2.2.2.2.2.2.2.2.2.1])⟩) (fun hHeld => ?_)
          generalize W8.drew = W9 at HD hHeld ⊢
          refine pure_ (i := 0) (N := some 93) (v := ?_) (a' := ?_) #[true, false, false, false, false, false, false, false, false, false, false, false, false, false, false, false, false, false, false, false, false, false, false, false, false, false, false, false, false, false, false, false, false, false, false, false, false, false, false, false] rfl rfl (by kernel_rfl) (fun _ _ _ h => h) (Or.inl ⟨by rfl, ?_⟩) ?_ ?_
          rotate_left
          · intro w'
            go_simp
            with_reducible rfl
          rotate_left
          · simp only [Act.put, List.setIfInBounds_toArray, List.set_cons_zero, List.set_cons_succ, i64_w, i32_w]
            rfl
          refine take_ (i := 1) (N := some 94) (v := ?_) (a' := ?_) #[true, true, false, false, false, false, false, false, false, false, false, false, false, false, false, false, false, false, false, false, false, false, false, false, false, false, false, false, false, false, false, false, false, false, false, false, false, false, false, false] rfl rfl (by kernel_rfl) (fun _ _ _ h => h) (Or.inl ⟨by rfl, ?_⟩) hHeld ?_ ?_
          rotate_left
          · intro w' hSw
            have y3 := (blk_cell hSw.1 3).trans (show _ = some (.slice B3 j d3) from rfl)
            go_simp
            with_reducible rfl
          rotate_left
          · simp only [Act.put, List.setIfInBounds_toArray, List.set_cons_zero, List.set_cons_succ, i64_w, i32_w]
            rfl
          refine pure_ (i := 2) (N := some 95) (v := ?_) (a' := ?_) #[true, true, true, false, false, false, false, false, false, false, false, false, false, false, false, false, false, false, false, false, false, false, false, false, false, false, false, false, false, false, false, false, false, false, false, false, false, false, false, false] rfl rfl (by kernel_rfl) (fun _ _ _ h => h) (Or.inl ⟨by rfl, ?_⟩) ?_ ?_
          rotate_left
          · intro w'
            go_simp
            with_reducible rfl
          rotate_left
          · simp only [Act.put, List.setIfInBounds_toArray, List.set_cons_zero, List.set_cons_succ, i64_w, i32_w]
            rfl
          refine pure_ (i := 3) (N := some 96) (v := ?_) (a' := ?_) #[true, true, true, true, false, false, false, false, false, false, false, false, false, false, false, false, false, false, false, false, false, false, false, false, false, false, false, false, false, false, false, false, false, false, false, false, false, false, false, false] rfl rfl (by kernel_rfl) (fun _ _ _ h => h) (Or.inl ⟨by rfl, ?_⟩) ?_ ?_
          rotate_left
          · intro w'
            go_simp
            with_reducible rfl
          rotate_left
          · simp only [Act.put, List.setIfInBounds_toArray, List.set_cons_zero, List.set_cons_succ, i64_w, i32_w]
            rfl
          refine take_ (i := 4) (N := some 97) (v := ?_) (a' := ?_) #[true, true, true, true, true, false, false, false, false, false, false, false, false, false, false, false, false, false, false, false, false, false, false, false, false, false, false, false, false, false, false, false, false, false, false, false, false, false, false, false] rfl rfl (by kernel_rfl) (fun _ _ _ h => h) (Or.inl ⟨by rfl, ?_⟩) hHeld ?_ ?_
          rotate_left
          · intro w' hSw
            have e0 := hSw.2.1
            go_simp
            with_reducible rfl
          rotate_left
          · simp only [Act.put, List.setIfInBounds_toArray, List.set_cons_zero, List.set_cons_succ, i64_w, i32_w]
            rfl
          refine pure_ (i := 5) (N := some 98) (v := ?_) (a' := ?_) #[true, true, true, true, true, true, false, false, false, false, false, false, false, false, false, false, false, false, false, false, false, false, false, false, false, false, false, false, false, false, false, false, false, false, false, false, false, false, false, false] rfl rfl (by kernel_rfl) (fun _ _ _ h => h) (Or.inl ⟨by rfl, ?_⟩) ?_ ?_
          rotate_left
          · intro w'
            go_simp
            with_reducible rfl
          rotate_left
          · simp only [Act.put, List.setIfInBounds_toArray, List.set_cons_zero, List.set_cons_succ, i64_w, i32_w]
            rfl
          refine pure_ (i := 6) (N := some 99) (v := ?_) (a' := ?_) #[true, true, true, true, true, true, true, false, false, false, false, false, false, false, false, false, false, false, false, false, false, false, false, false, false, false, false, false, false, false, false, false, false, false, false, false, false, false, false, false] rfl rfl (by kernel_rfl) (fun _ _ _ h => h) (Or.inl ⟨by rfl, ?_⟩) ?_ ?_
          rotate_left
          · intro w'
            go_simp
            with_reducible rfl
          rotate_left
          · simp only [Act.put, List.setIfInBounds_toArray, List.set_cons_zero, List.set_cons_succ, i64_w, i32_w]
            rfl
          refine take_ (i := 7) (N := some 100) (v := ?_) (a' := ?_) #[true, true, true, true, true, true, true, true, false, false, false, false, false, false, false, false, false, false, false, false, false, false, false, false, false, false, false, false, false, false, false, false, false, false, false, false, false, false, false, false] rfl rfl (by kernel_rfl) (fun _ _ _ h => h) (Or.inl ⟨by rfl, ?_⟩) hHeld ?_ ?_
          rotate_left
          · intro w' hSw
            have e1 := hSw.2.2.1
            go_simp
            with_reducible rfl
          rotate_left
          · simp only [Act.put, List.setIfInBounds_toArray, List.set_cons_zero, List.set_cons_succ, i64_w, i32_w]
            rfl
          refine pure_ (i := 8) (N := some 101) (v := ?_) (a' := ?_) #[true, true, true, true, true, true, true, true, true, false, false, false, false, false, false, false, false, false, false, false, false, false, false, false, false, false, false, false, false, false, false, false, false, false, false, false, false, false, false, false] rfl rfl (by kernel_rfl) (fun _ _ _ h => h) (Or.inl ⟨by rfl, ?_⟩) ?_ ?_
          rotate_left
          · intro w'
            go_simp
            with_reducible rfl
          rotate_left
          · simp only [Act.put, List.setIfInBounds_toArray, List.set_cons_zero, List.set_cons_succ, i64_w, i32_w]
            rfl
          refine pure_ (i := 9) (N := some 102) (v := ?_) (a' := ?_) #[true, true, true, true, true, true, true, true, true, true, false, false, false, false, false, false, false, false, false, false, false, false, false, false, false, false, false, false, false, false, false, false, false, false, false, false, false, false, false, false] rfl rfl (by kernel_rfl) (fun _ _ _ h => h) (Or.inl ⟨by rfl, ?_⟩) ?_ ?_
          rotate_left
          · intro w'
            go_simp
            with_reducible rfl
          rotate_left
          · simp only [Act.put, List.setIfInBounds_toArray, List.set_cons_zero, List.set_cons_succ, i64_w, i32_w]
            rfl
          refine take_ (i := 10) (N := some 103) (v := ?_) (a' := ?_) #[true, true, true, true, true, true, true, true, true, true, true, false, false, false, false, false, false, false, false, false, false, false, false, false, false, false, false, false, false, false, false, false, false, false, false, false, false, false, false, false] rfl rfl (by kernel_rfl) (fun _ _ _ h => h) (Or.inl ⟨by rfl, ?_⟩) hHeld ?_ ?_
          rotate_left
          · intro w' hSw
            have e2 := hSw.2.2.2.1
            go_simp
            with_reducible rfl
          rotate_left
          · simp only [Act.put, List.setIfInBounds_toArray, List.set_cons_zero, List.set_cons_succ, i64_w, i32_w]
            rfl
          refine pure_ (i := 11) (N := some 104) (v := ?_) (a' := ?_) #[true, true, true, true, true, true, true, true, true, true, true, true, false, false, false, false, false, false, false, false, false, false, false, false, false, false, false, false, false, false, false, false, false, false, false, false, false, false, false, false] rfl rfl (by kernel_rfl) (fun _ _ _ h => h) (Or.inl ⟨by rfl, ?_⟩) ?_ ?_
          rotate_left
          · intro w'
            go_simp
            with_reducible rfl
          rotate_left
          · simp only [Act.put, List.setIfInBounds_toArray, List.set_cons_zero, List.set_cons_succ, i64_w, i32_w]
            rfl
          refine pure_ (i := 12) (N := some 105) (v := ?_) (a' := ?_) #[true, true, true, true, true, true, true, true, true, true, true, true, true, false, false, false, false, false, false, false, false, false, false, false, false, false, false, false, false, false, false, false, false, false, false, false, false, false, false, false] rfl rfl (by kernel_rfl) (fun _ _ _ h => h) (Or.inl ⟨by rfl, ?_⟩) ?_ ?_
          rotate_left
          · intro w'
            go_simp
            with_reducible rfl
          rotate_left
          · simp only [Act.put, List.setIfInBounds_toArray, List.set_cons_zero, List.set_cons_succ, i64_w, i32_w]
            rfl
          refine take_ (i := 13) (N := some 106) (v := ?_) (a' := ?_) #[true, true, true, true, true, true, true, true, true, true, true, true, true, true, false, false, false, false, false, false, false, false, false, false, false, false, false, false, false, false, false, false, false, false, false, false, false, false, false, false] rfl rfl (by kernel_rfl) (fun _ _ _ h => h) (Or.inl ⟨by rfl, ?_⟩) hHeld ?_ ?_
          rotate_left
          · intro w' hSw
            have e3 := hSw.2.2.2.2.1
            go_simp
            with_reducible rfl
          rotate_left
          · simp only [Act.put, List.setIfInBounds_toArray, List.set_cons_zero, List.set_cons_succ, i64_w, i32_w]
            rfl
          refine pure_ (i := 14) (N := some 107) (v := ?_) (a' := ?_) #[true, true, true, true, true, true, true, true, true, true, true, true, true, true, true, false, false, false, false, false, false, false, false, false, false, false, false, false, false, false, false, false, false, false, false, false, false, false, false, false] rfl rfl (by kernel_rfl) (fun _ _ _ h => h) (Or.inl ⟨by rfl, ?_⟩) ?_ ?_
          rotate_left
          · intro w'
            go_simp
            with_reducible rfl
          rotate_left
          · simp only [Act.put, List.setIfInBounds_toArray, List.set_cons_zero, List.set_cons_succ, i64_w, i32_w]
            rfl
          refine pure_ (i := 15) (N := some 108) (v := ?_) (a' := ?_) #[true, true, true, true, true, true, true, true, true, true, true, true, true, true, true, true, false, false, false, false, false, false, false, false, false, false, false, false, false, false, false, false, false, false, false, false, false, false, false, false] rfl rfl (by kernel_rfl) (fun _ _ _ h => h) (Or.inl ⟨by rfl, ?_⟩) ?_ ?_
          rotate_left
          · intro w'
            go_simp
            with_reducible rfl
          rotate_left
          · simp only [Act.put, List.setIfInBounds_toArray, List.set_cons_zero, List.set_cons_succ, i64_w, i32_w]
            rfl
          refine take_ (i := 16) (N := some 109) (v := ?_) (a' := ?_) #[true, true, true, true, true, true, true, true, true, true, true, true, true, true, true, true, true, false, false, false, false, false, false, false, false, false, false, false, false, false, false, false, false, false, false, false, false, false, false, false] rfl rfl (by kernel_rfl) (fun _ _ _ h => h) (Or.inl ⟨by rfl, ?_⟩) hHeld ?_ ?_
          rotate_left
          · intro w' hSw
            have e4 := hSw.2.2.2.2.2.1
            go_simp
            with_reducible rfl
          rotate_left
          · simp only [Act.put, List.setIfInBounds_toArray, List.set_cons_zero, List.set_cons_succ, i64_w, i32_w]
            rfl
          refine pure_ (i := 17) (N := some 110) (v := ?_) (a' := ?_) #[true, true, true, true, true, true, true, true, true, true, true, true, true, true, true, true, true, true, false, false, false, false, false, false, false, false, false, false, false, false, false, false, false, false, false, false, false, false, false, false] rfl rfl (by kernel_rfl) (fun _ _ _ h => h) (Or.inl ⟨by rfl, ?_⟩) ?_ ?_
          rotate_left
          · intro w'
            go_simp
            with_reducible rfl
          rotate_left
          · simp only [Act.put, List.setIfInBounds_toArray, List.set_cons_zero, List.set_cons_succ, i64_w, i32_w]
            rfl
          refine pure_ (i := 18) (N := some 111) (v := ?_) (a' := ?_) #[true, true, true, true, true, true, true, true, true, true, true, true, true, true, true, true, true, true, true, false, false, false, false, false, false, false, false, false, false, false, false, false, false, false, false, false, false, false, false, false] rfl rfl (by kernel_rfl) (fun _ _ _ h => h) (Or.inl ⟨by rfl, ?_⟩) ?_ ?_
          rotate_left
          · intro w'
            go_simp
            with_reducible rfl
          rotate_left
          · simp only [Act.put, List.setIfInBounds_toArray, List.set_cons_zero, List.set_cons_succ, i64_w, i32_w]
            rfl
          refine take_ (i := 19) (N := some 112) (v := ?_) (a' := ?_) #[true, true, true, true, true, true, true, true, true, true, true, true, true, true, true, true, true, true, true, true, false, false, false, false, false, false, false, false, false, false, false, false, false, false, false, false, false, false, false, false] rfl rfl (by kernel_rfl) (fun _ _ _ h => h) (Or.inl ⟨by rfl, ?_⟩) hHeld ?_ ?_
          rotate_left
          · intro w' hSw
            have e5 := hSw.2.2.2.2.2.2.1
            go_simp
            with_reducible rfl
          rotate_left
          · simp only [Act.put, List.setIfInBounds_toArray, List.set_cons_zero, List.set_cons_succ, i64_w, i32_w]
            rfl
          refine pure_ (i := 20) (N := some 113) (v := ?_) (a' := ?_) #[true, true, true, true, true, true, true, true, true, true, true, true, true, true, true, true, true, true, true, true, true, false, false, false, false, false, false, false, false, false, false, false, false, false, false, false, false, false, false, false] rfl rfl (by kernel_rfl) (fun _ _ _ h => h) (Or.inl ⟨by rfl, ?_⟩) ?_ ?_
          rotate_left
          · intro w'
            go_simp
            with_reducible rfl
          rotate_left
          · simp only [Act.put, List.setIfInBounds_toArray, List.set_cons_zero, List.set_cons_succ, i64_w, i32_w]
            rfl
          refine pure_ (i := 21) (N := some 114) (v := ?_) (a' := ?_) #[true, true, true, true, true, true, true, true, true, true, true, true, true, true, true, true, true, true, true, true, true, true, false, false, false, false, false, false, false, false, false, false, false, false, false, false, false, false, false, false] rfl rfl (by kernel_rfl) (fun _ _ _ h => h) (Or.inl ⟨by rfl, ?_⟩) ?_ ?_
          rotate_left
          · intro w'
            go_simp
            with_reducible rfl
          rotate_left
          · simp only [Act.put, List.setIfInBounds_toArray, List.set_cons_zero, List.set_cons_succ, i64_w, i32_w]
            rfl
          refine take_ (i := 22) (N := some 115) (v := ?_) (a' := ?_) #[true, true, true, true, true, true, true, true, true, true, true, true, true, true, true, true, true, true, true, true, true, true, true, false, false, false, false, false, false, false, false, false, false, false, false, false, false, false, false, false] rfl rfl (by kernel_rfl) (fun _ _ _ h => h) (Or.inl ⟨by rfl, ?_⟩) hHeld ?_ ?_
          rotate_left
          · intro w' hSw
            have e6 := hSw.2.2.2.2.2.2.2.1
            go_simp
            with_reducible rfl
          rotate_left
          · simp only [Act.put, List.setIfInBounds_toArray, List.set_cons_zero, List.set_cons_succ, i64_w, i32_w]
            rfl
          refine pure_ (i := 23) (N := some 116) (v := ?_) (a' := ?_) #[true, true, true, true, true, true, true, true, true, true, true, true, true, true, true, true, true, true, true, true, true, true, true, true, false, false, false, false, false, false, false, false, false, false, false, false, false, false, false, false] rfl rfl (by kernel_rfl) (fun _ _ _ h => h) (Or.inl ⟨by rfl, ?_⟩) ?_ ?_
          rotate_left
          · intro w'
            go_simp
            with_reducible rfl
          rotate_left
          · simp only [Act.put, List.setIfInBounds_toArray, List.set_cons_zero, List.set_cons_succ, i64_w, i32_w]
            rfl
          refine pure_ (i := 24) (N := some 117) (v := ?_) (a' := ?_) #[true, true, true, true, true, true, true, true, true, true, true, true, true, true, true, true, true, true, true, true, true, true, true, true, true, false, false, false, false, false, false, false, false, false, false, false, false, false, false, false] rfl rfl (by kernel_rfl) (fun _ _ _ h => h) (Or.inl ⟨by rfl, ?_⟩) ?_ ?_
          rotate_left
          · intro w'
            go_simp
            with_reducible rfl
          rotate_left
          · simp only [Act.put, List.setIfInBounds_toArray, List.set_cons_zero, List.set_cons_succ, i64_w, i32_w]
            rfl
          refine take_ (i := 25) (N := some 118) (v := ?_) (a' := ?_) #[true, true, true, true, true, true, true, true, true, true, true, true, true, true, true, true, true, true, true, true, true, true, true, true, true, true, false, false, false, false, false, false, false, false, false, false, false, false, false, false] rfl rfl (by kernel_rfl) (fun _ _ _ h => h) (Or.inl ⟨by rfl, ?_⟩) hHeld ?_ ?_
          rotate_left
          · intro w' hSw
            have e7 := hSw.2.2.2.2.2.2.2.2.1
            go_simp
            with_reducible rfl
          rotate_left
          · simp only [Act.put, List.setIfInBounds_toArray, List.set_cons_zero, List.set_cons_succ, i64_w, i32_w]
            rfl
          refine pure_ (i := 26) (N := some 119) (v := ?_) (a' := ?_) #[true, true, true, true, true, true, true, true, true, true, true, true, true, true, true, true, true, true, true, true, true, true, true, true, true, true, true, false, false, false, false, false, false, false, false, false, false, false, false, false] rfl rfl (by kernel_rfl) (fun _ _ _ h => h) (Or.inl ⟨by rfl, ?_⟩) ?_ ?_
          rotate_left
          · intro w'
            go_simp
            with_reducible rfl
          rotate_left
          · simp only [Act.put, List.setIfInBounds_toArray, List.set_cons_zero, List.set_cons_succ, i64_w, i32_w]
            rfl
          refine pure_ (i := 27) (N := some 120) (v := ?_) (a' := ?_) #[true, true, true, true, true, true, true, true, true, true, true, true, true, true, true, true, true, true, true, true, true, true, true, true, true, true, true, true, false, false, false, false, false, false, false, false, false, false, false, false] rfl rfl (by kernel_rfl) (fun _ _ _ h => h) (Or.inl ⟨by rfl, ?_⟩) ?_ ?_
          rotate_left
          · intro w'
            go_simp
            with_reducible rfl
          rotate_left
          · simp only [Act.put, List.setIfInBounds_toArray, List.set_cons_zero, List.set_cons_succ, i64_w, i32_w]
            rfl
          refine take_ (i := 28) (N := some 121) (v := ?_) (a' := ?_) #[true, true, true, true, true, true, true, true, true, true, true, true, true, true, true, true, true, true, true, true, true, true, true, true, true, true, true, true, true, false, false, false, false, false, false, false, false, false, false, false] rfl rfl (by kernel_rfl) (fun _ _ _ h => h) (Or.inl ⟨by rfl, ?_⟩) hHeld ?_ ?_
          rotate_left
          · intro w' hSw
            have e8 := hSw.2.2.2.2.2.2.2.2.2.1
            go_simp
            with_reducible rfl
          rotate_left
          · simp only [Act.put, List.setIfInBounds_toArray, List.set_cons_zero, List.set_cons_succ, i64_w, i32_w]
            rfl
          refine pure_ (i := 29) (N := some 122) (v := ?_) (a' := ?_) #[true, true, true, true, true, true, true, true, true, true, true, true, true, true, true, true, true, true, true, true, true, true, true, true, true, true, true, true, true, true, false, false, false, false, false, false, false, false, false, false] rfl rfl (by kernel_rfl) (fun _ _ _ h => h) (Or.inl ⟨by rfl, ?_⟩) ?_ ?_
          rotate_left
          · intro w'
            go_simp
            with_reducible rfl
          rotate_left
          · simp only [Act.put, List.setIfInBounds_toArray, List.set_cons_zero, List.set_cons_succ, i64_w, i32_w]
            rfl
          refine pure_ (i := 30) (N := some 123) (v := ?_) (a' := ?_) #[true, true, true, true, true, true, true, true, true, true, true, true, true, true, true, true, true, true, true, true, true, true, true, true, true, true, true, true, true, true, true, false, false, false, false, false, false, false, false, false] rfl rfl (by kernel_rfl) (fun _ _ _ h => h) (Or.inl ⟨by rfl, ?_⟩) ?_ ?_
          rotate_left
          · intro w'
            go_simp
            with_reducible rfl
          rotate_left
          · simp only [Act.put, List.setIfInBounds_toArray, List.set_cons_zero, List.set_cons_succ, i64_w, i32_w]
            rfl
          refine take_ (i := 31) (N := some 124) (v := ?_) (a' := ?_) #[true, true, true, true, true, true, true, true, true, true, true, true, true, true, true, true, true, true, true, true, true, true, true, true, true, true, true, true, true, true, true, true, false, false, false, false, false, false, false, false] rfl rfl (by kernel_rfl) (fun _ _ _ h => h) (Or.inl ⟨by rfl, ?_⟩) hHeld ?_ ?_
          rotate_left
          · intro w' hSw
            have e9 := hSw.2.2.2.2.2.2.2.2.2.2.1
            go_simp
            with_reducible rfl
          rotate_left
          · simp only [Act.put, List.setIfInBounds_toArray, List.set_cons_zero, List.set_cons_succ, i64_w, i32_w]
            rfl
          refine pure_ (i := 32) (N := some 125) (v := ?_) (a' := ?_) #[true, true, true, true, true, true, true, true, true, true, true, true, true, true, true, true, true, true, true, true, true, true, true, true, true, true, true, true, true, true, true, true, true, false, false, false, false, false, false, false] rfl rfl (by kernel_rfl) (fun _ _ _ h => h) (Or.inl ⟨by rfl, ?_⟩) ?_ ?_
          rotate_left
          · intro w'
            go_simp
            with_reducible rfl
          rotate_left
          · simp only [Act.put, List.setIfInBounds_toArray, List.set_cons_zero, List.set_cons_succ, i64_w, i32_w]
            rfl
          refine pure_ (i := 33) (N := some 126) (v := ?_) (a' := ?_) #[true, true, true, true, true, true, true, true, true, true, true, true, true, true, true, true, true, true, true, true, true, true, true, true, true, true, true, true, true, true, true, true, true, true, false, false, false, false, false, false] rfl rfl (by kernel_rfl) (fun _ _ _ h => h) (Or.inl ⟨by rfl, ?_⟩) ?_ ?_
          rotate_left
          · intro w'
            go_simp
            with_reducible rfl
          rotate_left
          · simp only [Act.put, List.setIfInBounds_toArray, List.set_cons_zero, List.set_cons_succ, i64_w, i32_w]
            rfl
          refine take_ (i := 34) (N := some 127) (v := ?_) (a' := ?_) #[true, true, true, true, true, true, true, true, true, true, true, true, true, true, true, true, true, true, true, true, true, true, true, true, true, true, true, true, true, true, true, true, true, true, true, false, false, false, false, false] rfl rfl (by kernel_rfl) (fun _ _ _ h => h) (Or.inl ⟨by rfl, ?_⟩) hHeld ?_ ?_
          rotate_left
          · intro w' hSw
            have e10 := hSw.2.2.2.2.2.2.2.2.2.2.2
            go_simp
            with_reducible rfl
          rotate_left
          · simp only [Act.put, List.setIfInBounds_toArray, List.set_cons_zero, List.set_cons_succ, i64_w, i32_w]
            rfl
          refine pure_ (i := 35) (N := some 128) (v := ?_) (a' := ?_) #[true, true, true, true, true, true, true, true, true, true, true, true, true, true, true, true, true, true, true, true, true, true, true, true, true, true, true, true, true, true, true, true, true, true, true, true, false, false, false, false] rfl rfl (by kernel_rfl) (fun _ _ _ h => h) (Or.inl ⟨by rfl, ?_⟩) ?_ ?_
          rotate_left
          · intro w'
            go_simp
            with_reducible rfl
          rotate_left
          · simp only [Act.put, List.setIfInBounds_toArray, List.set_cons_zero, List.set_cons_succ, i64_w, i32_w]
            rfl
          clear hHeld
          refine one_ (i := 36) (N := some 129) #[true, true, true, true, true, true, true, true, true, true, true, true, true, true, true, true, true, true, true, true, true, true, true, true, true, true, true, true, true, true, true, true, true, true, true, true, true, false, false, false] rfl rfl (by kernel_rfl) (by decide) (fun K hK => ?_)
          refine value_ (w1 := ?_) (v := ?_) (by rfl) rfl ?_ ?_
          rotate_left 2
          · go_simp
            constructor
            · rfl
            · rfl
          have hba := below_alloc (Below.refl W9.heap.size W9) (.cells #[.int .i64 o0, .int .i64 o1, .int .i64 o2, .int .i64 o3, .int .i64 o4, .int .i64 o5, .int .i64 o6, .int .i64 o7, .int .i64 o8, .int .i64 o9, .int .i64 o10] 57)
          have HE := Aside0.mk (HD.out.far hba)
          clear hba
          refine hK.out _ _ (show (W9.alloc (.cells #[.int .i64 o0, .int .i64 o1, .int .i64 o2, .int .i64 o3, .int .i64 o4, .int .i64 o5, .int .i64 o6, .int .i64 o7, .int .i64 o8, .int .i64 o9, .int .i64 o10] 57)).heap[q4]? = some (.cells #[.int .i64 p, .int .i64 f, .slice B2 m2 d2, .slice B3 j d3, .slice none 0 0] 26 (0, 0)) ∧ (W9.alloc (.cells #[.int .i64 o0, .int .i64 o1, .int .i64 o2, .int .i64 o3, .int .i64 o4, .int .i64 o5, .int .i64 o6, .int .i64 o7, .int .i64 o8, .int .i64 o9, .int .i64 o10] 57)).cell? ⟨g7, 0, none⟩ = some (.int .i64 o0) ∧ (W9.alloc (.cells #[.int .i64 o0, .int .i64 o1, .int .i64 o2, .int .i64 o3, .int .i64 o4, .int .i64 o5, .int .i64 o6, .int .i64 o7, .int .i64 o8, .int .i64 o9, .int .i64 o10] 57)).cell? ⟨g7, 1, none⟩ = some (.int .i64 o1) ∧ (W9.alloc (.cells #[.int .i64 o0, .int .i64 o1, .int .i64 o2, .int .i64 o3, .int .i64 o4, .int .i64 o5, .int .i64 o6, .int .i64 o7, .int .i64 o8, .int .i64 o9, .int .i64 o10] 57)).cell? ⟨g7, 2, none⟩ = some (.int .i64 o2) ∧ (W9.alloc (.cells #[.int .i64 o0, .int .i64 o1, .int .i64 o2, .int .i64 o3, .int .i64 o4, .int .i64 o5, .int .i64 o6, .int .i64 o7, .int .i64 o8, .int .i64 o9, .int .i64 o10] 57)).cell? ⟨g7, 3, none⟩ = some (.int .i64 o3) ∧ (W9.alloc (.cells #[.int .i64 o0, .int .i64 o1, .int .i64 o2, .int .i64 o3, .int .i64 o4, .int .i64 o5, .int .i64 o6, .int .i64 o7, .int .i64 o8, .int .i64 o9, .int .i64 o10] 57)).cell? ⟨g7, 4, none⟩ = some (.int .i64 o4) ∧ (W9.alloc (.cells #[.int .i64 o0, .int .i64 o1, .int .i64 o2, .int .i64 o3, .int .i64 o4, .int .i64 o5, .int .i64 o6, .int .i64 o7, .int .i64 o8, .int .i64 o9, .int .i64 o10] 57)).cell? ⟨g7, 5, none⟩ = some (.int .i64 o5) ∧ (W9.alloc (.cells #[.int .i64 o0, .int .i64 o1, .int .i64 o2, .int .i64 o3, .int .i64 o4, .int .i64 o5, .int .i64 o6, .int .i64 o7, .int .i64 o8, .int .i64 o9, .int .i64 o10] 57)).cell? ⟨g7, 6, none⟩ = some (.int .i64 o6) ∧ (W9.alloc (.cells #[.int .i64 o0, .int .i64 o1, .int .i64 o2, .int .i64 o3, .int .i64 o4, .int .i64 o5, .int .i64 o6, .int .i64 o7, .int .i64 o8, .int .i64 o9, .int .i64 o10] 57)).cell? ⟨g7, 7, none⟩ = some (.int .i64 o7) ∧ (W9.alloc (.cells #[.int .i64 o0, .int .i64 o1, .int .i64 o2, .int .i64 o3, .int .i64 o4, .int .i64 o5, .int .i64 o6, .int .i64 o7, .int .i64 o8, .int .i64 o9, .int .i64 o10] 57)).cell? ⟨g7, 8, none⟩ = some (.int .i64 o8) ∧ (W9.alloc (.cells #[.int .i64 o0, .int .i64 o1, .int .i64 o2, .int .i64 o3, .int .i64 o4, .int .i64 o5, .int .i64 o6, .int .i64 o7, .int .i64 o8, .int .i64 o9, .int .i64 o10] 57)).cell? ⟨g7, 9, none⟩ = some (.int .i64 o9) ∧ (W9.alloc (.cells #[.int .i64 o0, .int .i64 o1, .int .i64 o2, .int .i64 o3, .int .i64 o4, .int .i64 o5, .int .i64 o6, .int .i64 o7, .int .i64 o8, .int .i64 o9, .int .i64 o10] 57)).cell? ⟨g7, 10, none⟩ = some (.int .i64 o10) from ⟨HE.out.cb, ((HE.out.rows (⟨q7, g7, cg7, 11, l7⟩ : LRow) (List.mem_cons_self ..)).cell (i := 0) (show 0 < 11 by decide)).trans (by rw [show rd (⟨q7, g7, cg7, 11, l7⟩ : LRow).ls ((0 : Nat) : Int) = o0 from EO.out.1]), ((HE.out.rows (⟨q7, g7, cg7, 11, l7⟩ : LRow) (List.mem_cons_self ..)).cell (i := 1) (show 1 < 11 by decide)).trans (by rw [show rd (⟨q7, g7, cg7, 11, l7⟩ : LRow).ls ((1 : Nat) : Int) = o1 from EO.out.2.1]), ((HE.out.rows (⟨q7, g7, cg7, 11, l7⟩ : LRow) (List.mem_cons_self ..)).cell (i := 2) (show 2 < 11 by decide)).trans (by rw [show rd (⟨q7, g7, cg7, 11, l7⟩ : LRow).ls ((2 : Nat) : Int) = o2 from EO.out.2.2.1]), ((HE.out.rows (⟨q7, g7, cg7, 11, l7⟩ : LRow) (List.mem_cons_self ..)).cell (i := 3) (show 3 < 11 by decide)).trans (by rw [show rd (⟨q7, g7, cg7, 11, l7⟩ : LRow).ls ((3 : Nat) : Int) = o3 from EO.out.2.2.2.1]), ((HE.out.rows (⟨q7, g7, cg7, 11, l7⟩ : LRow) (List.mem_cons_self ..)).cell (i := 4) (show 4 < 11 by decide)).trans (by rw [show rd (⟨q7, g7, cg7, 11, l7⟩ : LRow).ls ((4 : Nat) : Int) = o4 from EO.out.2.2.2.2.1]), ((HE.out.rows (⟨q7, g7, cg7, 11, l7⟩ : LRow) (List.mem_cons_self ..)).cell (i := 5) (show 5 < 11 by decide)).trans (by rw [show rd (⟨q7, g7, cg7, 11, l7⟩ : LRow).ls ((5 : Nat) : Int) = o5 from EO.out.2.2.2.2.2.1]), ((HE.out.rows (⟨q7, g7, cg7, 11, l7⟩ : LRow) (List.mem_cons_self ..)).cell (i := 6) (show 6 < 11 by decide)).trans (by rw [show rd (⟨q7, g7, cg7, 11, l7⟩ : LRow).ls ((6 : Nat) : Int) = o6 from EO.out.2.2.2.2.2.2.1]), ((HE.out.rows (⟨q7, g7, cg7, 11, l7⟩ : LRow) (List.mem_cons_self ..)).cell (i := 7) (show 7 < 11 by decide)).trans (by rw [show rd (⟨q7, g7, cg7, 11, l7⟩ : LRow).ls ((7 : Nat) : Int) = o7 from EO.out.2.2.2.2.2.2.2.1]), ((HE.out.rows (⟨q7, g7, cg7, 11, l7⟩ : LRow) (List.mem_cons_self ..)).cell (i := 8) (show 8 < 11 by decide)).trans (by rw [show rd (⟨q7, g7, cg7, 11, l7⟩ : LRow).ls ((8 : Nat) : Int) = o8 from EO.out.2.2.2.2.2.2.2.2.1]), ((HE.out.rows (⟨q7, g7, cg7, 11, l7⟩ : LRow) (List.mem_cons_self ..)).cell (i := 9) (show 9 < 11 by decide)).trans (by rw [show rd (⟨q7, g7, cg7, 11, l7⟩ : LRow).ls ((9 : Nat) : Int) = o9 from EO.out.2.2.2.2.2.2.2.2.2.1]), ((HE.out.rows (⟨q7, g7, cg7, 11, l7⟩ : LRow) (List.mem_cons_self ..)).cell (i := 10) (show 10 < 11 by decide)).trans (by rw [show rd (⟨q7, g7, cg7, 11, l7⟩ : LRow).ls ((10 : Nat) : Int) = o10 from EO.out.2.2.2.2.2.2.2.2.2.2.1])⟩) (fun hHeld => ?_)
          clear hK K
          refine norm_ (a' := ?_) ?_ ?_
          rotate_left
          · show Act.put _ (some 129) _ = _
            simp only [Act.put, List.setIfInBounds_toArray, List.set_cons_zero, List.set_cons_succ, i64_w, i32_w]
            rfl
          clear hHeld
          refine one_ (i := 37) (N := some 130) #[true, true, true, true, true, true, true, true, true, true, true, true, true, true, true, true, true, true, true, true, true, true, true, true, true, true, true, true, true, true, true, true, true, true, true, true, true, true, false, false] rfl rfl (by kernel_rfl) (by decide) (fun K hK => ?_)
          refine Kd.R_append_step k57 (w0 := w) w.heap.size (by rfl) (.tmp 94) (.tmp 129) 23 57 (.agg #[.int .i64 0, .int .i64 0, .int .i64 0, .int .i64 0, .int .i64 0, .int .i64 0, .int .i64 0, .int .i64 0, .int .i64 0, .int .i64 0, .int .i64 0]) 88 rfl Tryd.underlying23 info57 rfl (by decide) (by decide) (.slice B3 j d3) wj (⟨o0, o1, o2, o3, o4, o5, o6, o7, o8, o9, o10⟩ : S57) [.int .i64 o0, .int .i64 o1, .int .i64 o2, .int .i64 o3, .int .i64 o4, .int .i64 o5, .int .i64 o6, .int .i64 o7, .int .i64 o8, .int .i64 o9, .int .i64 o10] (fun k => w.heap.size ≤ k) (fun _ => False) rfl rfl ?aP (fun _ hk => hk.elim) ?aF ?aO ?aB ?aS ?aL ?_
          (case aP => exact k57_mkM _ _ _ (⟨o0, o1, o2, o3, o4, o5, o6, o7, o8, o9, o10⟩ : S57))
          (case aB => exact HD.out.bel)
          (case aF => exact (fun k hk => Nat.le_trans HD.out.bel.size hk))
          (case aO => exact HD.out.o3)
          (case aS => exact HD.out.bel.size)
          (case aL => have := HWL.out; omega)
          intro v7 w7 ho hb hg hat
          obtain ⟨wz, hwz⟩ : ∃ z, wj ++ [(⟨o0, o1, o2, o3, o4, o5, o6, o7, o8, o9, o10⟩ : S57)] = z := ⟨_, rfl⟩
          have HWZ : Aside0 (liR nxK rdK rnm (j + 1) = wz) := ⟨by rw [← hwz, ENX.out.1, EO.out.2.2.2.2.2.2.2.2.2.2.2.1]⟩
          rw [hwz] at ho
          clear hwz
          obtain ⟨B7, d7, rfl, _, _⟩ := Kd.R_reads ho
          have H10 := Aside0.mk (HD.out.push3 ho hb hg)
          clear ho hb hg hat
          refine hK.out _ _ (show w7.heap[q4]? = some (.cells #[.int .i64 p, .int .i64 f, .slice B2 m2 d2, .slice B3 j d3, .slice none 0 0] 26 (0, 0)) ∧ w7.cell? ⟨g7, 0, none⟩ = some (.int .i64 o0) ∧ w7.cell? ⟨g7, 1, none⟩ = some (.int .i64 o1) ∧ w7.cell? ⟨g7, 2, none⟩ = some (.int .i64 o2) ∧ w7.cell? ⟨g7, 3, none⟩ = some (.int .i64 o3) ∧ w7.cell? ⟨g7, 4, none⟩ = some (.int .i64 o4) ∧ w7.cell? ⟨g7, 5, none⟩ = some (.int .i64 o5) ∧ w7.cell? ⟨g7, 6, none⟩ = some (.int .i64 o6) ∧ w7.cell? ⟨g7, 7, none⟩ = some (.int .i64 o7) ∧ w7.cell? ⟨g7, 8, none⟩ = some (.int .i64 o8) ∧ w7.cell? ⟨g7, 9, none⟩ = some (.int .i64 o9) ∧ w7.cell? ⟨g7, 10, none⟩ = some (.int .i64 o10) from ⟨H10.out.2.1, ((H10.out.2.2 (⟨q7, g7, cg7, 11, l7⟩ : LRow) (List.mem_cons_self ..)).cell (i := 0) (show 0 < 11 by decide)).trans (by rw [show rd (⟨q7, g7, cg7, 11, l7⟩ : LRow).ls ((0 : Nat) : Int) = o0 from EO.out.1]), ((H10.out.2.2 (⟨q7, g7, cg7, 11, l7⟩ : LRow) (List.mem_cons_self ..)).cell (i := 1) (show 1 < 11 by decide)).trans (by rw [show rd (⟨q7, g7, cg7, 11, l7⟩ : LRow).ls ((1 : Nat) : Int) = o1 from EO.out.2.1]), ((H10.out.2.2 (⟨q7, g7, cg7, 11, l7⟩ : LRow) (List.mem_cons_self ..)).cell (i := 2) (show 2 < 11 by decide)).trans (by rw [show rd (⟨q7, g7, cg7, 11, l7⟩ : LRow).ls ((2 : Nat) : Int) = o2 from EO.out.2.2.1]), ((H10.out.2.2 (⟨q7, g7, cg7, 11, l7⟩ : LRow) (List.mem_cons_self ..)).cell (i := 3) (show 3 < 11 by decide)).trans (by rw [show rd (⟨q7, g7, cg7, 11, l7⟩ : LRow).ls ((3 : Nat) : Int) = o3 from EO.out.2.2.2.1]), ((H10.out.2.2 (⟨q7, g7, cg7, 11, l7⟩ : LRow) (List.mem_cons_self ..)).cell (i := 4) (show 4 < 11 by decide)).trans (by rw [show rd (⟨q7, g7, cg7, 11, l7⟩ : LRow).ls ((4 : Nat) : Int) = o4 from EO.out.2.2.2.2.1]), ((H10.out.2.2 (⟨q7, g7, cg7, 11, l7⟩ : LRow) (List.mem_cons_self ..)).cell (i := 5) (show 5 < 11 by decide)).trans (by rw [show rd (⟨q7, g7, cg7, 11, l7⟩ : LRow).ls ((5 : Nat) : Int) = o5 from EO.out.2.2.2.2.2.1]), ((H10.out.2.2 (⟨q7, g7, cg7, 11, l7⟩ : LRow) (List.mem_cons_self ..)).cell (i := 6) (show 6 < 11 by decide)).trans (by rw [show rd (⟨q7, g7, cg7, 11, l7⟩ : LRow).ls ((6 : Nat) : Int) = o6 from EO.out.2.2.2.2.2.2.1]), ((H10.out.2.2 (⟨q7, g7, cg7, 11, l7⟩ : LRow) (List.mem_cons_self ..)).cell (i := 7) (show 7 < 11 by decide)).trans (by rw [show rd (⟨q7, g7, cg7, 11, l7⟩ : LRow).ls ((7 : Nat) : Int) = o7 from EO.out.2.2.2.2.2.2.2.1]), ((H10.out.2.2 (⟨q7, g7, cg7, 11, l7⟩ : LRow) (List.mem_cons_self ..)).cell (i := 8) (show 8 < 11 by decide)).trans (by rw [show rd (⟨q7, g7, cg7, 11, l7⟩ : LRow).ls ((8 : Nat) : Int) = o8 from EO.out.2.2.2.2.2.2.2.2.1]), ((H10.out.2.2 (⟨q7, g7, cg7, 11, l7⟩ : LRow) (List.mem_cons_self ..)).cell (i := 9) (show 9 < 11 by decide)).trans (by rw [show rd (⟨q7, g7, cg7, 11, l7⟩ : LRow).ls ((9 : Nat) : Int) = o9 from EO.out.2.2.2.2.2.2.2.2.2.1]), ((H10.out.2.2 (⟨q7, g7, cg7, 11, l7⟩ : LRow) (List.mem_cons_self ..)).cell (i := 10) (show 10 < 11 by decide)).trans (by rw [show rd (⟨q7, g7, cg7, 11, l7⟩ : LRow).ls ((10 : Nat) : Int) = o10 from EO.out.2.2.2.2.2.2.2.2.2.2.1])⟩) (fun hHeld => ?_)
          clear hK K
          refine norm_ (a' := ?_) ?_ ?_
          rotate_left
          · show Act.put _ (some 130) _ = _
            simp only [Act.put, List.setIfInBounds_toArray, List.set_cons_zero, List.set_cons_succ, i64_w, i32_w]
            rfl
          refine pure_ (i := 38) (N := some 131) (v := ?_) (a' := ?_) #[true, true, true, true, true, true, true, true, true, true, true, true, true, true, true, true, true, true, true, true, true, true, true, true, true, true, true, true, true, true, true, true, true, true, true, true, true, true, true, false] rfl rfl (by kernel_rfl) (fun _ _ _ h => h) (Or.inl ⟨by rfl, ?_⟩) ?_ ?_
          rotate_left
          · intro w'
            go_simp
            with_reducible rfl
          rotate_left
          · simp only [Act.put, List.setIfInBounds_toArray, List.set_cons_zero, List.set_cons_succ, i64_w, i32_w]
            rfl
          refine last_ (i := 39) (N := none) #[true, true, true, true, true, true, true, true, true, true, true, true, true, true, true, true, true, true, true, true, true, true, true, true, true, true, true, true, true, true, true, true, true, true, true, true, true, true, true, true] rfl rfl (by kernel_rfl) (by decide) (fun K hK => ?_)
          have y3 := (blk_cell H10.out.2.1 3).trans (show _ = some (.slice B3 j d3) from rfl)
          have yf3 := blk_frozen H10.out.2.1 3
          refine skip_ (w1 := ?_) (by rfl) rfl ?_ ?_
          rotate_left
          · go_simp
            rfl
          refine hK.out _ _ ?_
          clear hK K
          refine done_ (by kernel_rfl) ?_
          go_wp2
          go_roundw
          case rel => exact ⟨j + 1, by go_num, by omega, ⟨⟨A7, c7, _, by rw [HWZ.out, ENX.out.2, EO.out.2.2.2.2.2.2.2.2.2.2.2.2]; exact H10.out.1.less (fun l hl => List.mem_cons_of_mem _ hl)⟩⟩⟩
          case measure => simp [intOf]; omega
        ·
          have d1 : decide ((j : Int) < (m3 : Int)) = false := decide_eq_false (by omega)
          have d1n : decide (j < m3) = false := decide_eq_false hlt
          obtain rfl : m3 = j := by omega
          obtain ⟨ks, hws⟩ : ∃ x, liR nxK rdK rnm m3 = x := ⟨_, rfl⟩
          obtain ⟨r4, hr2⟩ : ∃ x, itR nxK rnm m3 = x := ⟨_, rfl⟩
          rw [hws, hr2] at H
          rw [hr2] at x0 x1
          have HWr4 : Aside0 (Wi.WF r4.b) := ⟨by rw [← hr2]; exact itR_wf (fun _ h => nx_wf h) HW_rnm.out m3⟩
          have HLWks : Aside0 (ks.length = m3) := ⟨by rw [← hws]; exact liR_len m3⟩
          have E_ks := Aside0.mk hws
          have E_r4 := Aside0.mk hr2
          clear hws hr2
          have hb1 := nextV1_bd HWr4.out
          obtain ⟨m4, hm3⟩ : ∃ x, (Wi.nextV r4 1).toNat = x := ⟨_, rfl⟩
          have Hm4 : Aside0 (m4 ≤ 255) := ⟨by omega⟩
          have EIm4 : Aside0 (Wi.nextV r4 1 = (m4 : Int)) := ⟨by omega⟩
          have E_m4 := Aside0.mk hm3
          clear hb1 hm3
          go_upto_region 23 with (first | fail)
          clear z2 e0
          go_upto_region 24 with (first | ((with_reducible refine gate_dst (N := 135) rfl ?_); refine Wi.lit_ints (k := .i64) (e := 3) ?hg (N := 135) ?hd [1] #[.int .i64 1] ?hr ?hi ?hm ?_; (case hd => rfl); (case hg => rfl); (case hr => first | (go_simp; done) | (go_simp; rfl)); (case hi => rfl); (case hm => simp); intro D wl hC hO; have HC : Aside0 (Wi.CI .i64 wl D 1 [1]) := ⟨hC⟩; have HL := Aside0.mk (H.out.far hO.bel); have TKC := Aside0.mk (take_lit (n := 1) H.out.ci HWr4.out (below_step HB0.out (below_step H.out.bel hO.bel)) HC.out (by decide) rfl (by decide)); clear hC hO HC x0 x1) | (go_at_call 40; (with_reducible refine TKC.out.mono ?_); rintro e w5 ⟨At, ct, gt, cgt, rfl, hc5, ho5, hg5⟩; have H5 := Aside0.mk (And.intro hc5 (And.intro ho5 hg5)); clear hc5 ho5 hg5 TKC))
          have h7 := And.intro (HL.out.more (a0 := .slice At (nx r4 [1]).b.length ct) (a1 := .int .i64 (nx r4 [1]).e) H5.out.2.1 H5.out.2.2) (And.intro (blk_new w5 (.cells #[.slice At (nx r4 [1]).b.length ct, .int .i64 (nx r4 [1]).e, .slice (some ⟨gt, 0, none⟩) 1 cgt] 71)) H5.out.1)
          have H7 := Aside0.mk h7
          clear h7 HL H5
          generalize (w5.alloc (.cells #[.slice At (nx r4 [1]).b.length ct, .int .i64 (nx r4 [1]).e, .slice (some ⟨gt, 0, none⟩) 1 cgt] 71)) = W7 at H7 ⊢
          generalize w5.heap.size = qt at H7 ⊢
          obtain ⟨rnt, hrn⟩ : ∃ x, nx r4 [1] = x := ⟨_, rfl⟩
          obtain ⟨lt, hl7⟩ : ∃ x, vl r4 [1] = x := ⟨_, rfl⟩
          rw [hrn, hl7] at H7
          rw [hrn] at ⊢
          have ERNt := Aside0.mk hrn
          have ELt := Aside0.mk hl7
          clear hrn hl7
          clear H
          have z0 := (blk_cell H7.out.2.1 0).trans (show _ = some (.slice At rnt.b.length ct) from rfl)
          have z1 := (blk_cell H7.out.2.1 1).trans (show _ = some (.int .i64 rnt.e) from rfl)
          have x0 := (blk_cell H7.out.1.xb 0).trans (show _ = some (.slice A1 r4.b.length c1) from rfl)
          have x1 := (blk_cell H7.out.1.xb 1).trans (show _ = some (.int .i64 r4.e) from rfl)
          have xf0 := blk_frozen H7.out.1.xb 0
          have xf1 := blk_frozen H7.out.1.xb 1
          go_upto_region 25 with (first | fail)
          have H8 := Aside0.mk (H7.out.1.putX H7.out.2.2)
          clear z0 z1 x0 x1 xf0 xf1 H7
          generalize ((W7.setCell ⟨q5, 0, none⟩ (.slice At rnt.b.length ct)).setCell ⟨q5, 1, none⟩ (.int .i64 rnt.e)) = W8 at H8 ⊢
          have ELT : Aside0 (rd lt (0 : Nat) = (m4 : Int)) := ⟨by rw [← ELt.out, ← EIm4.out]; rfl⟩
          have HW_rnt : Aside0 (Wi.WF rnt.b) := ⟨by rw [← ERNt.out]; exact nx_wf HWr4.out⟩
          have H9 := Aside0.mk (H8.out.less (L' := [(⟨qt, gt, cgt, 1, lt⟩ : LRow)]) (fun l hl => by rw [List.mem_singleton.1 hl]; exact List.mem_cons_self ..))
          clear H8
          go_wp2
          go_loopw [14] (fun v14 wr => ∃ j : Nat, v14 = .int .i64 j ∧ j ≤ m4 ∧ Aside0 (∃ (A1 : Option Addr) (c1 : Nat) (v4 : Value), RB wb w wr q2 q3 q4 q5 A1 c1 (itR nxA rnt j) (.slice (some ⟨g5, 0, none⟩) 3 cg5) p f (.slice B2 m2 d2) (.slice B3 m3 d3) v4 ws ks (liR nxA rdA rnt j) [(⟨qt, gt, cgt, 1, lt⟩ : LRow)])) (fun v14 _ => m4 - (intOf v14).toNat)
          case atStart => exact ⟨0, rfl, by omega, ⟨⟨_, _, _, H9.out⟩⟩⟩
          case round =>
            clear H9 d1 d1n hlt hj
            rename_i gv14
            obtain ⟨j, rfl, hj, HJ⟩ := hrel
            obtain ⟨A1, c1, v4, hR⟩ := HJ.out
            obtain ⟨B4, d4, rfl, _, _⟩ := Kd.R_reads hR.o4
            have hll := liR_len (f := nxA) (g := rdA) (r := rnt) j
            rw [hll] at hR
            have H := Aside0.mk hR
            clear hR HJ hll
            obtain ⟨b0, b1, hYM⟩ := (H.out.rows (⟨qt, gt, cgt, 1, lt⟩ : LRow) (List.mem_singleton.2 rfl)).bk
            simp only [] at hYM
            have z2 := (blk_cell hYM 2).trans (show _ = some (.slice (some ⟨gt, 0, none⟩) 1 cgt) from rfl)
            clear hYM
            have e0 : wr.cell? ⟨gt, 0, none⟩ = some (.int .i64 (m4 : Int)) := ((H.out.rows (⟨qt, gt, cgt, 1, lt⟩ : LRow) (List.mem_singleton.2 rfl)).cell (i := 0) (show 0 < 1 by decide)).trans (by rw [show rd (⟨qt, gt, cgt, 1, lt⟩ : LRow).ls ((0 : Nat) : Int) = (m4 : Int) from ELT.out])
            have x0 := (blk_cell H.out.xb 0).trans (show _ = some (.slice A1 (itR nxA rnt j).b.length c1) from rfl)
            have x1 := (blk_cell H.out.xb 1).trans (show _ = some (.int .i64 (itR nxA rnt j).e) from rfl)
            have hmb : m4 ≤ 255 := Hm4.out
            by_cases hlt : j < m4
            ·
              have d1 : decide ((j : Int) < (m4 : Int)) = true := decide_eq_true (by omega)
              have d1n : decide (j < m4) = true := decide_eq_true hlt
              have HWJ : Aside0 (Wi.WF (itR nxA rnt j).b) := ⟨itR_wf (fun _ h => Wi.next_wf h 1) HW_rnt.out j⟩
              obtain ⟨wj, hwj⟩ : ∃ x, liR nxA rdA rnt j = x := ⟨_, rfl⟩
              have ENX : Aside0 (liR nxA rdA rnt (j + 1) = wj ++ [rdA (itR nxA rnt j)] ∧ itR nxA rnt (j + 1) = nxA (itR nxA rnt j)) := ⟨by rw [← hwj]; exact ⟨rfl, rfl⟩⟩
              have HWL : Aside0 (wj.length = j) := ⟨by rw [← hwj]; exact liR_len j⟩
              rw [hwj] at H
              clear hwj
              generalize itR nxA rnt j = rj at H HWJ ENX x0 x1
              go_upto_region 28 with (first | fail)
              clear z2 e0
              go_upto_region 29 with (first | ((with_reducible refine gate_dst (N := 151) rfl ?_); refine Wi.lit_ints (k := .i64) (e := 3) ?hg (N := 151) ?hd [1] #[.int .i64 1] ?hr ?hi ?hm ?_; (case hd => rfl); (case hg => rfl); (case hr => first | (go_simp; done) | (go_simp; rfl)); (case hi => rfl); (case hm => simp); intro D wl hC hO; have HC : Aside0 (Wi.CI .i64 wl D 1 [1]) := ⟨hC⟩; have HL := Aside0.mk (H.out.far hO.bel); have TKC := Aside0.mk (take_lit (n := 1) H.out.ci HWJ.out (below_step HB0.out (below_step H.out.bel hO.bel)) HC.out (by decide) rfl (by decide)); clear hC hO HC x0 x1) | (go_at_call 40; (with_reducible refine TKC.out.mono ?_); rintro e w5 ⟨A7, c7, g7, cg7, rfl, hc5, ho5, hg5⟩; have H5 := Aside0.mk (And.intro hc5 (And.intro ho5 hg5)); clear hc5 ho5 hg5 TKC))
              have h7 := And.intro (HL.out.more (a0 := .slice A7 (nx rj [1]).b.length c7) (a1 := .int .i64 (nx rj [1]).e) H5.out.2.1 H5.out.2.2) (And.intro (blk_new w5 (.cells #[.slice A7 (nx rj [1]).b.length c7, .int .i64 (nx rj [1]).e, .slice (some ⟨g7, 0, none⟩) 1 cg7] 71)) H5.out.1)
              have H7 := Aside0.mk h7
              clear h7 HL H5
              generalize (w5.alloc (.cells #[.slice A7 (nx rj [1]).b.length c7, .int .i64 (nx rj [1]).e, .slice (some ⟨g7, 0, none⟩) 1 cg7] 71)) = W7 at H7 ⊢
              generalize w5.heap.size = q7 at H7 ⊢
              obtain ⟨rn7, hrn⟩ : ∃ x, nx rj [1] = x := ⟨_, rfl⟩
              obtain ⟨l7, hl7⟩ : ∃ x, vl rj [1] = x := ⟨_, rfl⟩
              rw [hrn, hl7] at H7
              rw [hrn] at ⊢
              have ERN7 := Aside0.mk hrn
              have EL7 := Aside0.mk hl7
              clear hrn hl7
              clear H
              have z0 := (blk_cell H7.out.2.1 0).trans (show _ = some (.slice A7 rn7.b.length c7) from rfl)
              have z1 := (blk_cell H7.out.2.1 1).trans (show _ = some (.int .i64 rn7.e) from rfl)
              have x0 := (blk_cell H7.out.1.xb 0).trans (show _ = some (.slice A1 rj.b.length c1) from rfl)
              have x1 := (blk_cell H7.out.1.xb 1).trans (show _ = some (.int .i64 rj.e) from rfl)
              have xf0 := blk_frozen H7.out.1.xb 0
              have xf1 := blk_frozen H7.out.1.xb 1
              go_upto_region 30 with (first | fail)
              have H8 := Aside0.mk (H7.out.1.putX H7.out.2.2)
              clear z0 z1 x0 x1 xf0 xf1 H7
              generalize ((W7.setCell ⟨q5, 0, none⟩ (.slice A7 rn7.b.length c7)).setCell ⟨q5, 1, none⟩ (.int .i64 rn7.e)) = W8 at H8 ⊢
              obtain ⟨o0, ho0⟩ : ∃ x, Wi.nextV rj 1 = x := ⟨_, rfl⟩
              have EO : Aside0 (rd l7 (0 : Nat) = o0 ∧ rdA rj = o0 ∧ nxA rj = rn7) := ⟨by rw [← EL7.out, ← ho0]; exact ⟨rfl, rfl, ERN7.out⟩⟩
              clear ho0 EL7 ERN7
              obtain ⟨a0, a1, hY⟩ := (H8.out.rows (⟨q7, g7, cg7, 1, l7⟩ : LRow) (List.mem_cons_self ..)).bk
              simp only [] at hY
              have HY := Aside0.mk hY
              clear hY
              have HD := Aside0.mk (H8.out.far (below_drew (Below.refl W8.heap.size W8)))
              have HYD := Aside0.mk (blk_drew HY.out)
              refine start_ (n := 10) (S := (fun w' => w'.heap[q4]? = some (.cells #[.int .i64 p, .int .i64 f, .slice B2 m2 d2, .slice B3 m3 d3, .slice B4 j d4] 26 (0, 0)) ∧ w'.heap[q7]? = some (.cells #[a0, a1, .slice (some ⟨g7, 0, none⟩) 1 cg7] 71 (0, 0)) ∧ w'.cell? ⟨g7, 0, none⟩ = some (.int .i64 o0))) (ds := [9]) #[false, false, false, false, false, false, false, false, false, false] (by kernel_rfl) rfl rfl (show W8.drew.heap[q4]? = some (.cells #[.int .i64 p, .int .i64 f, .slice B2 m2 d2, .slice B3 m3 d3, .slice B4 j d4] 26 (0, 0)) ∧ W8.drew.heap[q7]? = some (.cells #[a0, a1, .slice (some ⟨g7, 0, none⟩) 1 cg7] 71 (0, 0)) ∧ W8.drew.cell? ⟨g7, 0, none⟩ = some (.int .i64 o0) from ⟨HD.out.cb, HYD.out, ((HD.out.rows (⟨q7, g7, cg7, 1, l7⟩ : LRow) (List.mem_cons_self ..)).cell (i := 0) (show 0 < 1 by decide)).trans (by rw [show rd (⟨q7, g7, cg7, 1, l7⟩ : LRow).ls ((0 : Nat) : Int) = o0 from EO.out.1])⟩) (fun hHeld => ?_)
              generalize W8.drew = W9 at HD HYD hHeld ⊢
              refine pure_ (i := 0) (N := some 156) (v := ?_) (a' := ?_) #[true, false, false, false, false, false, false, false, false, false] rfl rfl (by kernel_rfl) (fun _ _ _ h => h) (Or.inl ⟨by rfl, ?_⟩) ?_ ?_
              rotate_left
              · intro w'
                go_simp
                with_reducible rfl
              rotate_left
              · simp only [Act.put, List.setIfInBounds_toArray, List.set_cons_zero, List.set_cons_succ, i64_w, i32_w]
                rfl
              refine take_ (i := 1) (N := some 157) (v := ?_) (a' := ?_) #[true, true, false, false, false, false, false, false, false, false] rfl rfl (by kernel_rfl) (fun _ _ _ h => h) (Or.inl ⟨by rfl, ?_⟩) hHeld ?_ ?_
              rotate_left
              · intro w' hSw
                have y4 := (blk_cell hSw.1 4).trans (show _ = some (.slice B4 j d4) from rfl)
                go_simp
                with_reducible rfl
              rotate_left
              · simp only [Act.put, List.setIfInBounds_toArray, List.set_cons_zero, List.set_cons_succ, i64_w, i32_w]
                rfl
              refine pure_ (i := 2) (N := some 158) (v := ?_) (a' := ?_) #[true, true, true, false, false, false, false, false, false, false] rfl rfl (by kernel_rfl) (fun _ _ _ h => h) (Or.inl ⟨by rfl, ?_⟩) ?_ ?_
              rotate_left
              · intro w'
                go_simp
                with_reducible rfl
              rotate_left
              · simp only [Act.put, List.setIfInBounds_toArray, List.set_cons_zero, List.set_cons_succ, i64_w, i32_w]
                rfl
              refine take_ (i := 3) (N := some 159) (v := ?_) (a' := ?_) #[true, true, true, true, false, false, false, false, false, false] rfl rfl (by kernel_rfl) (fun _ _ _ h => h) (Or.inl ⟨by rfl, ?_⟩) hHeld ?_ ?_
              rotate_left
              · intro w' hSw
                have z2 := (blk_cell hSw.2.1 2).trans (show _ = some (.slice (some ⟨g7, 0, none⟩) 1 cg7) from rfl)
                go_simp
                with_reducible rfl
              rotate_left
              · simp only [Act.put, List.setIfInBounds_toArray, List.set_cons_zero, List.set_cons_succ, i64_w, i32_w]
                rfl
              refine pure_ (i := 4) (N := some 160) (v := ?_) (a' := ?_) #[true, true, true, true, true, false, false, false, false, false] rfl rfl (by kernel_rfl) (fun _ _ _ h => h) (Or.inl ⟨by rfl, ?_⟩) ?_ ?_
              rotate_left
              · intro w'
                go_simp
                with_reducible rfl
              rotate_left
              · simp only [Act.put, List.setIfInBounds_toArray, List.set_cons_zero, List.set_cons_succ, i64_w, i32_w]
                rfl
              refine take_ (i := 5) (N := some 161) (v := ?_) (a' := ?_) #[true, true, true, true, true, true, false, false, false, false] rfl rfl (by kernel_rfl) (fun _ _ _ h => h) (Or.inl ⟨by rfl, ?_⟩) hHeld ?_ ?_
              rotate_left
              · intro w' hSw
                have e0 := hSw.2.2
                go_simp
                with_reducible rfl
              rotate_left
              · simp only [Act.put, List.setIfInBounds_toArray, List.set_cons_zero, List.set_cons_succ, i64_w, i32_w]
                rfl
              clear hHeld
              refine one_ (i := 6) (N := some 162) #[true, true, true, true, true, true, true, false, false, false] rfl rfl (by kernel_rfl) (by decide) (fun K hK => ?_)
              refine value_ (w1 := ?_) (v := ?_) (by rfl) rfl ?_ ?_
              rotate_left 2
              · go_simp
                constructor
                · rfl
                · rfl
              have hba := below_alloc (Below.refl W9.heap.size W9) (.cells #[.int .i64 o0] 3)
              have HE := Aside0.mk (HD.out.far hba)
              have HYE := Aside0.mk (blk_below HYD.out hba)
              clear hba
              refine hK.out _ _ (show (W9.alloc (.cells #[.int .i64 o0] 3)).heap[q4]? = some (.cells #[.int .i64 p, .int .i64 f, .slice B2 m2 d2, .slice B3 m3 d3, .slice B4 j d4] 26 (0, 0)) ∧ (W9.alloc (.cells #[.int .i64 o0] 3)).heap[q7]? = some (.cells #[a0, a1, .slice (some ⟨g7, 0, none⟩) 1 cg7] 71 (0, 0)) ∧ (W9.alloc (.cells #[.int .i64 o0] 3)).cell? ⟨g7, 0, none⟩ = some (.int .i64 o0) from ⟨HE.out.cb, HYE.out, ((HE.out.rows (⟨q7, g7, cg7, 1, l7⟩ : LRow) (List.mem_cons_self ..)).cell (i := 0) (show 0 < 1 by decide)).trans (by rw [show rd (⟨q7, g7, cg7, 1, l7⟩ : LRow).ls ((0 : Nat) : Int) = o0 from EO.out.1])⟩) (fun hHeld => ?_)
              clear hK K
              refine norm_ (a' := ?_) ?_ ?_
              rotate_left
              · show Act.put _ (some 162) _ = _
                simp only [Act.put, List.setIfInBounds_toArray, List.set_cons_zero, List.set_cons_succ, i64_w, i32_w]
                rfl
              clear hHeld
              refine one_ (i := 7) (N := some 163) #[true, true, true, true, true, true, true, true, false, false] rfl rfl (by kernel_rfl) (by decide) (fun K hK => ?_)
              refine Kd.R_append_step (Kd.int .i64) (w0 := w) w.heap.size (by rfl) (.tmp 157) (.tmp 162) 24 3 (.int .i64 0) 8 rfl Tryd.underlying24 info3 rfl (by decide) (by decide) (.slice B4 j d4) wj o0 [.int .i64 o0] (fun k => w.heap.size ≤ k) (fun _ => False) rfl rfl ?aP (fun _ hk => hk.elim) ?aF ?aO ?aB ?aS ?aL ?_
              (case aP => exact rfl)
              (case aB => exact HD.out.bel)
              (case aF => exact (fun k hk => Nat.le_trans HD.out.bel.size hk))
              (case aO => exact HD.out.o4)
              (case aS => exact HD.out.bel.size)
              (case aL => have := HWL.out; omega)
              intro v7 w7 ho hb hg hat
              obtain ⟨wz, hwz⟩ : ∃ z, wj ++ [o0] = z := ⟨_, rfl⟩
              have HWZ : Aside0 (liR nxA rdA rnt (j + 1) = wz) := ⟨by rw [← hwz, ENX.out.1, EO.out.2.1]⟩
              rw [hwz] at ho
              clear hwz
              obtain ⟨B7, d7, rfl, _, _⟩ := Kd.R_reads ho
              have H10 := Aside0.mk (HD.out.push4 ho hb hg hat)
              have HY7 := Aside0.mk (blk_grown HYD.out hg (Kd.R_ne HD.out.o4 HYD.out (by decide)))
              clear ho hb hg hat
              refine hK.out _ _ (show w7.heap[q4]? = some (.cells #[.int .i64 p, .int .i64 f, .slice B2 m2 d2, .slice B3 m3 d3, .slice B4 j d4] 26 (0, 0)) ∧ w7.heap[q7]? = some (.cells #[a0, a1, .slice (some ⟨g7, 0, none⟩) 1 cg7] 71 (0, 0)) ∧ w7.cell? ⟨g7, 0, none⟩ = some (.int .i64 o0) from ⟨H10.out.2.1, HY7.out, ((H10.out.2.2 (⟨q7, g7, cg7, 1, l7⟩ : LRow) (List.mem_cons_self ..)).cell (i := 0) (show 0 < 1 by decide)).trans (by rw [show rd (⟨q7, g7, cg7, 1, l7⟩ : LRow).ls ((0 : Nat) : Int) = o0 from EO.out.1])⟩) (fun hHeld => ?_)
              clear hK K
              refine norm_ (a' := ?_) ?_ ?_
              rotate_left
              · show Act.put _ (some 163) _ = _
                simp only [Act.put, List.setIfInBounds_toArray, List.set_cons_zero, List.set_cons_succ, i64_w, i32_w]
                rfl
              refine pure_ (i := 8) (N := some 164) (v := ?_) (a' := ?_) #[true, true, true, true, true, true, true, true, true, false] rfl rfl (by kernel_rfl) (fun _ _ _ h => h) (Or.inl ⟨by rfl, ?_⟩) ?_ ?_
              rotate_left
              · intro w'
                go_simp
                with_reducible rfl
              rotate_left
              · simp only [Act.put, List.setIfInBounds_toArray, List.set_cons_zero, List.set_cons_succ, i64_w, i32_w]
                rfl
              refine last_ (i := 9) (N := none) #[true, true, true, true, true, true, true, true, true, true] rfl rfl (by kernel_rfl) (by decide) (fun K hK => ?_)
              have y4 := (blk_cell H10.out.2.1 4).trans (show _ = some (.slice B4 j d4) from rfl)
              have yf4 := blk_frozen H10.out.2.1 4
              refine skip_ (w1 := ?_) (by rfl) rfl ?_ ?_
              rotate_left
              · go_simp
                rfl
              refine hK.out _ _ ?_
              clear hK K
              refine done_ (by kernel_rfl) ?_
              go_wp2
              go_roundw
              case rel => exact ⟨j + 1, by go_num, by omega, ⟨⟨A7, c7, _, by rw [HWZ.out, ENX.out.2, EO.out.2.2]; exact H10.out.1.less (fun l hl => List.mem_cons_of_mem _ hl)⟩⟩⟩
              case measure => simp [intOf]; omega
            ·
              have d1 : decide ((j : Int) < (m4 : Int)) = false := decide_eq_false (by omega)
              have d1n : decide (j < m4) = false := decide_eq_false hlt
              obtain rfl : m4 = j := by omega
              obtain ⟨ac, hws⟩ : ∃ x, liR nxA rdA rnt m4 = x := ⟨_, rfl⟩
              obtain ⟨rz, hr2⟩ : ∃ x, itR nxA rnt m4 = x := ⟨_, rfl⟩
              rw [hws, hr2] at H
              rw [hr2] at x0 x1
              have HWrz : Aside0 (Wi.WF rz.b) := ⟨by rw [← hr2]; exact itR_wf (fun _ h => Wi.next_wf h 1) HW_rnt.out m4⟩
              have HLWac : Aside0 (ac.length = m4) := ⟨by rw [← hws]; exact liR_len m4⟩
              have E_ac := Aside0.mk hws
              have E_rz := Aside0.mk hr2
              clear hws hr2
              go_upto_region 31 with (first | fail)
              clear z2 e0 x0 x1
              have HD := Aside0.mk (H.out.far (below_drew (Below.refl wr.heap.size wr)))
              refine start_ (n := 5) (S := (fun w' => w'.heap[q4]? = some (.cells #[.int .i64 p, .int .i64 f, .slice B2 m2 d2, .slice B3 m3 d3, .slice B4 m4 d4] 26 (0, 0)) ∧ w'.heap[q5]? = some (.cells #[.slice A1 rz.b.length c1, .int .i64 rz.e, (.slice (some ⟨g5, 0, none⟩) 3 cg5)] 71 (0, 0)))) (ds := [4]) #[false, false, false, false, false] (by kernel_rfl) rfl rfl (show wr.drew.heap[q4]? = some (.cells #[.int .i64 p, .int .i64 f, .slice B2 m2 d2, .slice B3 m3 d3, .slice B4 m4 d4] 26 (0, 0)) ∧ wr.drew.heap[q5]? = some (.cells #[.slice A1 rz.b.length c1, .int .i64 rz.e, (.slice (some ⟨g5, 0, none⟩) 3 cg5)] 71 (0, 0)) from ⟨HD.out.cb, HD.out.xb⟩) (fun hHeld => ?_)
              generalize wr.drew = W9 at HD hHeld ⊢
              refine take_ (i := 0) (N := some 165) (v := ?_) (a' := ?_) #[true, false, false, false, false] rfl rfl (by kernel_rfl) (fun _ _ _ h => h) (Or.inl ⟨by rfl, ?_⟩) hHeld ?_ ?_
              rotate_left
              · intro w' hSw
                have y0 := (blk_cell hSw.1 0).trans (show _ = some (.int .i64 p) from rfl)
                have y1 := (blk_cell hSw.1 1).trans (show _ = some (.int .i64 f) from rfl)
                have y2 := (blk_cell hSw.1 2).trans (show _ = some (.slice B2 m2 d2) from rfl)
                have y3 := (blk_cell hSw.1 3).trans (show _ = some (.slice B3 m3 d3) from rfl)
                have y4 := (blk_cell hSw.1 4).trans (show _ = some (.slice B4 m4 d4) from rfl)
                go_simp
                with_reducible rfl
              rotate_left
              · simp only [Act.put, List.setIfInBounds_toArray, List.set_cons_zero, List.set_cons_succ, i64_w, i32_w]
                rfl
              refine pure_ (i := 1) (N := some 166) (v := ?_) (a' := ?_) #[true, true, false, false, false] rfl rfl (by kernel_rfl) (fun _ _ _ h => h) (Or.inl ⟨by rfl, ?_⟩) ?_ ?_
              rotate_left
              · intro w'
                go_simp
                with_reducible rfl
              rotate_left
              · simp only [Act.put, List.setIfInBounds_toArray, List.set_cons_zero, List.set_cons_succ, i64_w, i32_w]
                rfl
              refine take_ (i := 2) (N := some 167) (v := ?_) (a' := ?_) #[true, true, true, false, false] rfl rfl (by kernel_rfl) (fun _ _ _ h => h) (Or.inl ⟨by rfl, ?_⟩) hHeld ?_ ?_
              rotate_left
              · intro w' hSw
                have x0 := (blk_cell hSw.2 0).trans (show _ = some (.slice A1 rz.b.length c1) from rfl)
                have x1 := (blk_cell hSw.2 1).trans (show _ = some (.int .i64 rz.e) from rfl)
                go_simp
                with_reducible rfl
              rotate_left
              · simp only [Act.put, List.setIfInBounds_toArray, List.set_cons_zero, List.set_cons_succ, i64_w, i32_w]
                rfl
              clear hHeld
              refine one_ (i := 3) (N := none) #[true, true, true, true, false] rfl rfl (by kernel_rfl) (by decide) (fun K hK => ?_)
              have s0 := (blk_cell HD.out.r2 0).trans (show _ = some (.int .i64 0) from rfl)
              have s1 := (blk_cell HD.out.r2 1).trans (show _ = some (.int .i64 0) from rfl)
              have s2 := (blk_cell HD.out.r2 2).trans (show _ = some (.slice none 0 0) from rfl)
              have s3 := (blk_cell HD.out.r2 3).trans (show _ = some (.slice none 0 0) from rfl)
              have s4 := (blk_cell HD.out.r2 4).trans (show _ = some (.slice none 0 0) from rfl)
              have sf0 := blk_frozen HD.out.r2 0
              have sf1 := blk_frozen HD.out.r2 1
              have sf2 := blk_frozen HD.out.r2 2
              have sf3 := blk_frozen HD.out.r2 3
              have sf4 := blk_frozen HD.out.r2 4
              refine skip_ (w1 := ?_) (by rfl) rfl ?_ ?_
              rotate_left
              · go_simp
                rfl
              have H10 : Aside0 ((((((W9.setCell ⟨q2, 0, none⟩ (.int .i64 p)).setCell ⟨q2, 1, none⟩ (.int .i64 f)).setCell ⟨q2, 2, none⟩ (.slice B2 m2 d2)).setCell ⟨q2, 3, none⟩ (.slice B3 m3 d3)).setCell ⟨q2, 4, none⟩ (.slice B4 m4 d4)).heap[q2]? = some (.cells #[.int .i64 p, .int .i64 f, .slice B2 m2 d2, .slice B3 m3 d3, .slice B4 m4 d4] 26 (0, 0)) ∧ (((((W9.setCell ⟨q2, 0, none⟩ (.int .i64 p)).setCell ⟨q2, 1, none⟩ (.int .i64 f)).setCell ⟨q2, 2, none⟩ (.slice B2 m2 d2)).setCell ⟨q2, 3, none⟩ (.slice B3 m3 d3)).setCell ⟨q2, 4, none⟩ (.slice B4 m4 d4)).heap[q3]? = some (.cells #[.slice none 0 0, .int .i64 0] 69 (0, 0)) ∧ Below w.heap.size w (((((W9.setCell ⟨q2, 0, none⟩ (.int .i64 p)).setCell ⟨q2, 1, none⟩ (.int .i64 f)).setCell ⟨q2, 2, none⟩ (.slice B2 m2 d2)).setCell ⟨q2, 3, none⟩ (.slice B3 m3 d3)).setCell ⟨q2, 4, none⟩ (.slice B4 m4 d4)) ∧ (∀ b, b ≠ q2 → (((((W9.setCell ⟨q2, 0, none⟩ (.int .i64 p)).setCell ⟨q2, 1, none⟩ (.int .i64 f)).setCell ⟨q2, 2, none⟩ (.slice B2 m2 d2)).setCell ⟨q2, 3, none⟩ (.slice B3 m3 d3)).setCell ⟨q2, 4, none⟩ (.slice B4 m4 d4)).heap[b]? = W9.heap[b]?) ∧ (((((W9.setCell ⟨q2, 0, none⟩ (.int .i64 p)).setCell ⟨q2, 1, none⟩ (.int .i64 f)).setCell ⟨q2, 2, none⟩ (.slice B2 m2 d2)).setCell ⟨q2, 3, none⟩ (.slice B3 m3 d3)).setCell ⟨q2, 4, none⟩ (.slice B4 m4 d4)).heap[q4]? = some (.cells #[.int .i64 p, .int .i64 f, .slice B2 m2 d2, .slice B3 m3 d3, .slice B4 m4 d4] 26 (0, 0)) ∧ (((((W9.setCell ⟨q2, 0, none⟩ (.int .i64 p)).setCell ⟨q2, 1, none⟩ (.int .i64 f)).setCell ⟨q2, 2, none⟩ (.slice B2 m2 d2)).setCell ⟨q2, 3, none⟩ (.slice B3 m3 d3)).setCell ⟨q2, 4, none⟩ (.slice B4 m4 d4)).heap[q5]? = some (.cells #[.slice A1 rz.b.length c1, .int .i64 rz.e, (.slice (some ⟨g5, 0, none⟩) 3 cg5)] 71 (0, 0))) := ⟨⟨put5 HD.out.r2, (off5 (fun e => blk_ne HD.out.r3 HD.out.r2 (by decide) e)).trans HD.out.r3, bel5 HD.out.bel HD.out.g2, fun b hb => off5 hb, (off5 (fun e => HD.out.ne e.symm)).trans HD.out.cb, (off5 (fun e => blk_ne HD.out.xb HD.out.r2 (by decide) e)).trans HD.out.xb⟩⟩
              clear s0 s1 s2 s3 s4 sf0 sf1 sf2 sf3 sf4
              generalize (((((W9.setCell ⟨q2, 0, none⟩ (.int .i64 p)).setCell ⟨q2, 1, none⟩ (.int .i64 f)).setCell ⟨q2, 2, none⟩ (.slice B2 m2 d2)).setCell ⟨q2, 3, none⟩ (.slice B3 m3 d3)).setCell ⟨q2, 4, none⟩ (.slice B4 m4 d4)) = W10 at H10 ⊢
              refine hK.out _ _ H10.out.2.2.2.2 (fun hHeld => ?_)
              clear hK K
              refine last_ (i := 4) (N := none) #[true, true, true, true, true] rfl rfl (by kernel_rfl) (by decide) (fun K hK => ?_)
              have s0 := (blk_cell H10.out.2.1 0).trans (show _ = some (.slice none 0 0) from rfl)
              have s1 := (blk_cell H10.out.2.1 1).trans (show _ = some (.int .i64 0) from rfl)
              have sf0 := blk_frozen H10.out.2.1 0
              have sf1 := blk_frozen H10.out.2.1 1
              refine skip_ (w1 := ?_) (by rfl) rfl ?_ ?_
              rotate_left
              · go_simp
                rfl
              refine hK.out _ _ ?_
              clear hK K
              have hne := blk_ne HD.out.r2 HD.out.r3 (by decide)
              have H11 : Aside0 (((W10.setCell ⟨q3, 0, none⟩ (.slice A1 rz.b.length c1)).setCell ⟨q3, 1, none⟩ (.int .i64 rz.e)).heap[q2]? = some (.cells #[.int .i64 p, .int .i64 f, .slice B2 m2 d2, .slice B3 m3 d3, .slice B4 m4 d4] 26 (0, 0)) ∧ ((W10.setCell ⟨q3, 0, none⟩ (.slice A1 rz.b.length c1)).setCell ⟨q3, 1, none⟩ (.int .i64 rz.e)).heap[q3]? = some (.cells #[.slice A1 rz.b.length c1, .int .i64 rz.e] 69 (0, 0)) ∧ Below w.heap.size w ((W10.setCell ⟨q3, 0, none⟩ (.slice A1 rz.b.length c1)).setCell ⟨q3, 1, none⟩ (.int .i64 rz.e)) ∧ ∀ b, b ≠ q2 → b ≠ q3 → ((W10.setCell ⟨q3, 0, none⟩ (.slice A1 rz.b.length c1)).setCell ⟨q3, 1, none⟩ (.int .i64 rz.e)).heap[b]? = W9.heap[b]?) := ⟨⟨blk_far (p := ⟨q3, 1, none⟩) (blk_far (p := ⟨q3, 0, none⟩) H10.out.1 hne _) hne _, blk_put (blk_put H10.out.2.1 0 _ rfl) 1 _ rfl, below_set (below_set H10.out.2.2.1 HD.out.g3) HD.out.g3, fun b h2 h3 => ((Below.heap_setCell _ _ _ b h3).trans (Below.heap_setCell _ _ _ b h3)).trans (H10.out.2.2.2.1 b h2)⟩⟩
              clear s0 s1 sf0 sf1 hne H10
              generalize ((W10.setCell ⟨q3, 0, none⟩ (.slice A1 rz.b.length c1)).setCell ⟨q3, 1, none⟩ (.int .i64 rz.e)) = W11 at H11 ⊢
              refine done_ (by kernel_rfl) ?_
              obtain ⟨EQ, ER⟩ := read_fin E1.out E2.out EM.out ED.out E_ws.out E_r2.out E_m3.out ERNm.out E_ks.out E_r4.out E_m4.out ERNt.out E_ac.out E_rz.out
              have s2 : (k46).R 46 W11 w.heap.size (fun k => w.heap.size ≤ k) (.slice B2 ws.length d2) ws := by rw [HLWws.out]; exact R_typ rfl HD.out.o2 (fun k cs hk => H11.out.2.2.2 k (fun e => blk_ne hk HD.out.r2 (by decide) e) (fun e => blk_ne hk HD.out.r3 (by decide) e))
              have s3 : (k57).R 57 W11 w.heap.size (fun k => w.heap.size ≤ k) (.slice B3 ks.length d3) ks := by rw [HLWks.out]; exact R_typ rfl HD.out.o3 (fun k cs hk => H11.out.2.2.2 k (fun e => blk_ne hk HD.out.r2 (by decide) e) (fun e => blk_ne hk HD.out.r3 (by decide) e))
              have s4 : (Kd.int .i64).R 3 W11 w.heap.size (fun k => w.heap.size ≤ k) (.slice B4 ac.length d4) ac := by rw [HLWac.out]; exact R_typ rfl HD.out.o4 (fun k cs hk => H11.out.2.2.2 k (fun e => blk_ne hk HD.out.r2 (by decide) e) (fun e => blk_ne hk HD.out.r3 (by decide) e))
              have HS2 := Aside0.mk s2
              have HS3 := Aside0.mk s3
              have HS4 := Aside0.mk s4
              clear s2 s3 s4
              have HEQ := Aside0.mk EQ
              have HER := Aside0.mk ER
              clear EQ ER
              go_wp2
              refine bodyPost_ret (results_cc rfl _ _ q2 q3 26 69 #[.int .i64 p, .int .i64 f, .slice B2 m2 d2, .slice B3 m3 d3, .slice B4 m4 d4] #[.slice A1 rz.b.length c1, .int .i64 rz.e] (0, 0) (0, 0) _ _ rfl H11.out.1 TT.out rfl (by kernel_rfl) rfl H11.out.2.1 TR.out rfl (by kernel_rfl)) rfl ?_
              refine ⟨A1, c1, B2, d2, B3, d3, B4, d4, ?_, ?_, ?_, H11.out.2.2.1⟩
              · rw [HEQ.out, HER.out]
                show _ = Ending.returned (.tuple #[.agg #[.int .i64 p, .int .i64 f, .slice B2 ws.length d2, .slice B3 ks.length d3, .slice B4 ac.length d4], .agg #[.slice A1 rz.b.length c1, .int .i64 rz.e]])
                rw [HLWws.out, HLWks.out, HLWac.out]
              · rw [HER.out]; exact HD.out.ci
              · rw [HEQ.out]; exact rows_mv HS2.out HS3.out HS4.out
end Go.Proofs.YtdebbanloopcgaaDoor.Tb
