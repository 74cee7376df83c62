/- Layer 4 (config): the document's Good: what it makes of any config may be. -/
import Derived.Test.YtdebbanloopcgaaDoorGc
import Derived.Test.YtdebbanloopcgaaDoorRg
import Derived.Deep.DeepCutAuto
set_option linter.unusedVariables false
set_option linter.unusedSimpArgs false
namespace Go.Proofs.YtdebbanloopcgaaDoor.Cf
open Go.RowKit Go.Proofs.YtdebbanloopcgaaDoorW.PrintWords Go.Proofs.YtdebbanloopcgaaDoorW.PrintLast Go.Proofs.YtdebbanloopcgaaDoorW.PrintMore Go.Proofs.YtdebbanloopcgaaDoor.Cz Go.Proofs.YtdebbanloopcgaaDoor.PTableWrites
attribute [local go_sem] max2_int min2_int max_two min_two max_three min_three max_four min_four Tryd.underlying26 Tryd.underlying57 Tryd.underlying46
theorem km46 {w W : World} {base : Nat} {ok : Nat → Prop} {x : S46} {cs : List Value} (h : k46.K w x cs) : k46.M W base ok x cs := by
  rw [k46_open h]
  exact k46_mkM _ _ _ x
theorem km57 {w W : World} {base : Nat} {ok : Nat → Prop} {x : S57} {cs : List Value} (h : k57.K w x cs) : k57.M W base ok x cs := by
  rw [k57_open h]
  exact k57_mkM _ _ _ x
theorem own_grown {w W' : World} {row : Option Nat} {w0 : World} (h : Below w0.heap.size w0 w) (hg : w.grownBy W' row) (hne : ∀ k, row = some k → w0.heap.size ≤ k) : Below w0.heap.size w0 W' :=
  h.grown hg h.size hne
theorem cell_b {W W' : World} {a : Addr} {v : Value} (hc : W.cell? a = some v) (hb : Below W.heap.size W W') : W'.cell? a = some v := (hb.cell (World.block_lt_of_cell? _ _ hc)).trans hc
/-- Good's blocks: the argument's, the result's (as it was made), the one that is filled; its rows. -/
structure GS (w W : World) (ob : Nat) (xs os : Array Value) (v2 v3 v4 : Value) (ws : List S46) (ks : List S57) (ac : List Int) : Prop where
  pb : W.heap[w.heap.size]? = some (.cells xs 26 (0, 0))
  rb : W.heap[w.heap.size + 1]? = some (.cells #[.int .i64 0, .int .i64 0, .slice none 0 0, .slice none 0 0, .slice none 0 0] 26 (0, 0))
  gb : W.heap[ob]? = some (.cells os 26 (0, 0))
  hob : w.heap.size + 2 ≤ ob
  bel : Below w.heap.size w W
  r2 : k46.R 46 W w.heap.size (fun k => w.heap.size ≤ k) v2 ws
  r3 : k57.R 57 W w.heap.size (fun k => w.heap.size ≤ k) v3 ks
  r4 : (Kd.int .i64).R 3 W w.heap.size (fun k => w.heap.size ≤ k) v4 ac
section
variable {w W W' : World} {ob : Nat} {xs os os' : Array Value} {v2 v3 v4 v' : Value} {ws ws' : List S46} {ks ks' : List S57} {ac ac' : List Int}
theorem GS.far (h : GS w W ob xs os v2 v3 v4 ws ks ac) (hb : Below W.heap.size W W') : GS w W' ob xs os v2 v3 v4 ws ks ac :=
  ⟨blk_below h.pb hb, blk_below h.rb hb, blk_below h.gb hb, h.hob, below_step h.bel hb, Kd.R_below h.r2 hb, Kd.R_below h.r3 hb, Kd.R_below h.r4 hb⟩
theorem GS.put (h : GS w W ob xs os v2 v3 v4 ws ks ac) (j : Nat) (v : Value) (e : os.setIfInBounds j v = os') : GS w (W.setCell ⟨ob, j, none⟩ v) ob xs os' v2 v3 v4 ws ks ac := by
  have := h.hob
  exact ⟨blk_far (p := ⟨ob, j, none⟩) h.pb (by show w.heap.size ≠ ob; omega) v, blk_far (p := ⟨ob, j, none⟩) h.rb (by show w.heap.size + 1 ≠ ob; omega) v, blk_put h.gb j v e, h.hob, below_set h.bel (by omega), Kd.R_set h.r2 h.gb (by decide) j v, Kd.R_set h.r3 h.gb (by decide) j v, Kd.R_set h.r4 h.gb (by decide) j v⟩
theorem own_ne {α β : Type} {d : Kd α} {d' : Kd β} {e e' base base' : Nat} {ok ok' : Nat → Prop} {u v : Value} {l : List α} {l' : List β} (h : d.R e W base ok u l) (h' : d'.R e' W base' ok' v l') (hT : e ≠ e') : ∀ k, v.ownBlock = some k → some k ≠ u.ownBlock := by
  intro k hk
  obtain ⟨inner, ho⟩ := Kd.R_own h'
  obtain ⟨cells, hc⟩ := own_typed ho k hk
  exact Kd.R_ne h hc hT
theorem GS.push2 (h : GS w W ob xs os v2 v3 v4 ws ks ac) (ho : k46.R 46 W' w.heap.size (fun k => w.heap.size ≤ k) v' ws') (hb : Below w.heap.size w W') (hg : W.grownBy W' v2.ownBlock) : GS w W' ob xs os v' v3 v4 ws' ks ac :=
  ⟨blk_grown h.pb hg (Kd.R_ne h.r2 h.pb (by decide)), blk_grown h.rb hg (Kd.R_ne h.r2 h.rb (by decide)), blk_grown h.gb hg (Kd.R_ne h.r2 h.gb (by decide)), h.hob, hb, ho, Kd.R_grown2 h.r3 rfl hg (own_ne h.r3 h.r2 (by decide)), Kd.R_grown2 h.r4 rfl hg (own_ne h.r4 h.r2 (by decide))⟩
theorem GS.lit2 (h : GS w W ob xs os v2 v3 v4 ws ks ac) (ho : k46.R 46 W' w.heap.size (fun k => w.heap.size ≤ k) v' ws') (hb : Below w.heap.size w W') (hg : W.grownBy W' none) : GS w W' ob xs os v' v3 v4 ws' ks ac :=
  ⟨blk_grown h.pb hg (by simp), blk_grown h.rb hg (by simp), blk_grown h.gb hg (by simp), h.hob, hb, ho, Kd.R_grown2 h.r3 rfl hg (fun k hk => by cases hk), Kd.R_grown2 h.r4 rfl hg (fun k hk => by cases hk)⟩
theorem GS.push3 (h : GS w W ob xs os v2 v3 v4 ws ks ac) (ho : k57.R 57 W' w.heap.size (fun k => w.heap.size ≤ k) v' ks') (hb : Below w.heap.size w W') (hg : W.grownBy W' v3.ownBlock) : GS w W' ob xs os v2 v' v4 ws ks' ac :=
  ⟨blk_grown h.pb hg (Kd.R_ne h.r3 h.pb (by decide)), blk_grown h.rb hg (Kd.R_ne h.r3 h.rb (by decide)), blk_grown h.gb hg (Kd.R_ne h.r3 h.gb (by decide)), h.hob, hb, Kd.R_grown2 h.r2 rfl hg (own_ne h.r2 h.r3 (by decide)), ho, Kd.R_grown2 h.r4 rfl hg (own_ne h.r4 h.r3 (by decide))⟩
theorem GS.push4 (h : GS w W ob xs os v2 v3 v4 ws ks ac) (ho : (Kd.int .i64).R 3 W' w.heap.size (fun k => w.heap.size ≤ k) v' ac') (hb : Below w.heap.size w W') (hg : W.grownBy W' v4.ownBlock) : GS w W' ob xs os v2 v3 v' ws ks ac' :=
  ⟨blk_grown h.pb hg (Kd.R_ne h.r4 h.pb (by decide)), blk_grown h.rb hg (Kd.R_ne h.r4 h.rb (by decide)), blk_grown h.gb hg (Kd.R_ne h.r4 h.gb (by decide)), h.hob, hb, Kd.R_grown2 h.r2 rfl hg (own_ne h.r2 h.r4 (by decide)), Kd.R_grown2 h.r3 rfl hg (own_ne h.r3 h.r4 (by decide)), ho⟩
end
/-- What Good answers: a config that may be, of the call's own memory: it stays where the call's own blocks stay. -/
def GR (w : World) (e : Ending) (w' : World) : Prop := ∃ (G : Cfg) (B2 : Option Addr) (d2 : Nat) (B3 : Option Addr) (d3 : Nat) (B4 : Option Addr) (d4 : Nat), GoodC G ∧ e = .returned (.agg #[.int .i64 G.p, .int .i64 G.f, .slice B2 G.ws.length d2, .slice B3 G.ks.length d3, .slice B4 G.ac.length d4]) ∧ (∀ W', (∀ b, w.heap.size ≤ b → b < w'.heap.size → W'.heap[b]? = w'.heap[b]?) → CX W' G B2 d2 B3 d3 B4 d4) ∧ Below w.heap.size w w'
theorem good_of {w W : World} {p f : Int} {v2 v3 v4 : Value} {ws : List S46} {ks : List S57} {ac : List Int} (r2 : k46.R 46 W w.heap.size (fun k => w.heap.size ≤ k) v2 ws) (r3 : k57.R 57 W w.heap.size (fun k => w.heap.size ≤ k) v3 ks) (r4 : (Kd.int .i64).R 3 W w.heap.size (fun k => w.heap.size ≤ k) v4 ac) (hb : Below w.heap.size w W) (hG : GoodC ⟨p, f, ws, ks, ac⟩) : GR w (.returned (.agg #[.int .i64 p, .int .i64 f, v2, v3, v4])) W := by
  obtain ⟨B2, d2, rfl, l2, s2⟩ := Kd.R_reads r2
  obtain ⟨B3, d3, rfl, l3, s3⟩ := Kd.R_reads r3
  obtain ⟨B4, d4, rfl, l4, s4⟩ := Kd.R_reads r4
  refine ⟨⟨p, f, ws, ks, ac⟩, B2, d2, B3, d3, B4, d4, hG, rfl, fun W' hm => ?_, hb⟩
  obtain ⟨A2, a2, e2, m2, t2⟩ := Kd.R_reads (Kd.R_step (w1 := W') r2 hm)
  obtain ⟨A3, a3, e3, m3, t3⟩ := Kd.R_reads (Kd.R_step (w1 := W') r3 hm)
  obtain ⟨A4, a4, e4, m4, t4⟩ := Kd.R_reads (Kd.R_step (w1 := W') r4 hm)
  cases e2
  cases e3
  cases e4
  exact ⟨t2, m2, t3, m3, t4, m4⟩
theorem good_end5 {w W : World} {ob : Nat} {xs : Array Value} {p f : Int} {v2 v3 v4 u0 u1 u2 u3 u4 : Value} {ws : List S46} {ks : List S57} {ac : List Int} (h : GS w W ob xs #[.int .i64 p, .int .i64 f, v2, v3, v4] v2 v3 v4 ws ks ac) (hG : GoodC ⟨p, f, ws, ks, ac⟩) :
    GR w (.returned (.agg #[.int .i64 p, .int .i64 f, v2, v3, v4])) (((((W.setCell ⟨w.heap.size + 1, 0, none⟩ u0).setCell ⟨w.heap.size + 1, 1, none⟩ u1).setCell ⟨w.heap.size + 1, 2, none⟩ u2).setCell ⟨w.heap.size + 1, 3, none⟩ u3).setCell ⟨w.heap.size + 1, 4, none⟩ u4) := by
  have hr := h.rb
  exact good_of (Kd.R_set (Kd.R_set (Kd.R_set (Kd.R_set (Kd.R_set h.r2 hr (by decide) 0 u0) (blk_set hr 0 u0) (by decide) 1 u1) (blk_set (blk_set hr 0 u0) 1 u1) (by decide) 2 u2) (blk_set (blk_set (blk_set hr 0 u0) 1 u1) 2 u2) (by decide) 3 u3) (blk_set (blk_set (blk_set (blk_set hr 0 u0) 1 u1) 2 u2) 3 u3) (by decide) 4 u4) (Kd.R_set (Kd.R_set (Kd.R_set (Kd.R_set (Kd.R_set h.r3 hr (by decide) 0 u0) (blk_set hr 0 u0) (by decide) 1 u1) (blk_set (blk_set hr 0 u0) 1 u1) (by decide) 2 u2) (blk_set (blk_set (blk_set hr 0 u0) 1 u1) 2 u2) (by decide) 3 u3) (blk_set (blk_set (blk_set (blk_set hr 0 u0) 1 u1) 2 u2) 3 u3) (by decide) 4 u4) (Kd.R_set (Kd.R_set (Kd.R_set (Kd.R_set (Kd.R_set h.r4 hr (by decide) 0 u0) (blk_set hr 0 u0) (by decide) 1 u1) (blk_set (blk_set hr 0 u0) 1 u1) (by decide) 2 u2) (blk_set (blk_set (blk_set hr 0 u0) 1 u1) 2 u2) (by decide) 3 u3) (blk_set (blk_set (blk_set (blk_set hr 0 u0) 1 u1) 2 u2) 3 u3) (by decide) 4 u4) (below_set (below_set (below_set (below_set (below_set h.bel (by omega)) (by omega)) (by omega)) (by omega)) (by omega)) hG
theorem good_two (w : World) (xs : Array Value) : ((w.alloc (.cells xs 26)).alloc (.cells #[.int .i64 0, .int .i64 0, .slice none 0 0, .slice none 0 0, .slice none 0 0] 26)).heap[w.heap.size]? = some (.cells xs 26 (0, 0)) ∧ ((w.alloc (.cells xs 26)).alloc (.cells #[.int .i64 0, .int .i64 0, .slice none 0 0, .slice none 0 0, .slice none 0 0] 26)).heap[w.heap.size + 1]? = some (.cells #[.int .i64 0, .int .i64 0, .slice none 0 0, .slice none 0 0, .slice none 0 0] 26 (0, 0)) ∧ Below w.heap.size w ((w.alloc (.cells xs 26)).alloc (.cells #[.int .i64 0, .int .i64 0, .slice none 0 0, .slice none 0 0, .slice none 0 0] 26)) ∧ ((w.alloc (.cells xs 26)).alloc (.cells #[.int .i64 0, .int .i64 0, .slice none 0 0, .slice none 0 0, .slice none 0 0] 26)).heap.size = w.heap.size + 2 :=
  ⟨blk_alloc (blk_new w _) _, by have := blk_new (w.alloc (.cells xs 26)) (.cells #[.int .i64 0, .int .i64 0, .slice none 0 0, .slice none 0 0, .slice none 0 0] 26); rw [World.size_alloc] at this; exact this, below_alloc (below_alloc (Below.refl _ _) _) _, by rw [World.size_alloc, World.size_alloc]⟩
set_option maxHeartbeats 8000000 in
set_option maxRecDepth 100000 in
theorem good_any {C : Cfg} {A2 A3 A4 : Option Addr} {c2 c3 c4 : Nat} {w : World} (h : CX w C A2 c2 A3 c3 A4 c4) :
    Calls Tryd.prog 14 #[.agg #[.int .i64 C.p, .int .i64 C.f, .slice A2 C.ws.length c2, .slice A3 C.ks.length c3, .slice A4 C.ac.length c4]] w (GR w) := by
  have T := Aside0.mk Tryd.underlying26
  have HX := Aside0.mk h
  clear h
  have tw := good_two w #[.int .i64 C.p, .int .i64 C.f, .slice A2 C.ws.length c2, .slice A3 C.ks.length c3, .slice A4 C.ac.length c4]
  have nb := near_b C.p 1 (m := 4) (by omega)
  go_enter Tryd.func14, Tryd.ntmps14
  go_upto_region 1 with (first | fail)
  revert tw
  generalize ((w.alloc (.cells #[.int .i64 C.p, .int .i64 C.f, .slice A2 C.ws.length c2, .slice A3 C.ks.length c3, .slice A4 C.ac.length c4] 26)).alloc (.cells #[.int .i64 0, .int .i64 0, .slice none 0 0, .slice none 0 0, .slice none 0 0] 26)) = W1
  intro tw
  have a0 := (blk_cell tw.1 0).trans (show _ = some (.int .i64 C.p) from rfl)
  have TW := Aside0.mk tw
  clear tw
  go_upto_region 2 with (first | (go_at_call 28; refine (near_any _ _ _ (by omega) (by omega) _).mono ?_; rintro e w' ⟨rfl, rfl⟩))
  clear a0
  generalize nearV C.p 1 4 = p at nb ⊢
  have H : GS w (W1.alloc (.cells #[.int .i64 p, .int .i64 0, .slice none 0 0, .slice none 0 0, .slice none 0 0] 26)) W1.heap.size #[.int .i64 C.p, .int .i64 C.f, .slice A2 C.ws.length c2, .slice A3 C.ks.length c3, .slice A4 C.ac.length c4] #[.int .i64 p, .int .i64 0, .slice none 0 0, .slice none 0 0, .slice none 0 0] (.slice none 0 0) (.slice none 0 0) (.slice none 0 0) [] [] [] := ⟨blk_alloc TW.out.1 _, blk_alloc TW.out.2.1 _, blk_new W1 _, by rw [TW.out.2.2.2]; omega, below_alloc TW.out.2.2.1 _, Kd.R_nil _ _ _ _ _, Kd.R_nil _ _ _ _ _, Kd.R_nil _ _ _ _ _⟩
  revert H
  generalize (W1.alloc (.cells #[.int .i64 p, .int .i64 0, .slice none 0 0, .slice none 0 0, .slice none 0 0] 26)) = W2
  generalize W1.heap.size = ob
  intro H
  clear TW
  replace H := Aside0.mk H
  have hp1 : wrap64 (p + 1) = p + 1 := by unfold wrap64; omega
  have HP1 := Aside0.mk hp1
  clear hp1
  go_wp2
  go_loopw [4, 5] (fun v4 v5 wr => ∃ (j : Nat) (ws : List S46) (v2 : Value), v5 = .int .i64 j ∧ j ≤ 6 ∧ v4 = .int .i64 (endW 0 ws) ∧ Aside0 (ws.length = j ∧ chain p 0 ws ∧ endW 0 ws ≤ 8 * j ∧ (0 < j → 1 ≤ endW 0 ws)) ∧ Aside0 (GS w wr ob #[.int .i64 C.p, .int .i64 C.f, .slice A2 C.ws.length c2, .slice A3 C.ks.length c3, .slice A4 C.ac.length c4] #[.int .i64 p, .int .i64 0, v2, .slice none 0 0, .slice none 0 0] v2 (.slice none 0 0) (.slice none 0 0) ws [] [])) (fun _ v5 _ => 7 - (intOf v5).toNat)
  case atStart => exact ⟨0, [], _, rfl, by omega, rfl, ⟨rfl, trivial, by decide, by omega⟩, H⟩
  case round =>
    clear H
    rename_i gv4 gv5
    obtain ⟨j, ws, v2, rfl, hj, rfl, HL, H⟩ := hrel
    have a0 := (blk_cell H.out.pb 0).trans (show _ = some (.int .i64 C.p) from rfl)
    have a1 := (blk_cell H.out.pb 1).trans (show _ = some (.int .i64 C.f) from rfl)
    have a2 := (blk_cell H.out.pb 2).trans (show _ = some (.slice A2 C.ws.length c2) from rfl)
    have a3 := (blk_cell H.out.pb 3).trans (show _ = some (.slice A3 C.ks.length c3) from rfl)
    have a4 := (blk_cell H.out.pb 4).trans (show _ = some (.slice A4 C.ac.length c4) from rfl)
    go_upto_region 4 with (first | fail)
    go_cut [22] from 14 to 62 (fun v22 wx => ∃ b : Bool, v22 = .bool b ∧ Aside0 (b = decide (j < C.ws.length ∧ j < 6)) ∧ wr = wx)
    case first =>
      by_cases hlt : j < C.ws.length
      · have d1 : decide ((j : Int) < (C.ws.length : Int)) = true := decide_eq_true (by omega)
        have d1n : decide (j < C.ws.length) = true := decide_eq_true hlt
        have d2 : decide ((j : Int) < 6) = decide (j < 6) := decide_eq_decide.2 (by omega)
        have d3 : decide (j < 6) = decide (j < C.ws.length ∧ j < 6) := decide_eq_decide.2 (by omega)
        have D3 := Aside0.mk d3
        clear d3
        go_wp2
        go_meet
        case rel => exact ⟨_, rfl, ⟨by first | exact D3.out | exact D3.out.symm | (rw [D3.out])⟩, rfl⟩
      · have d1 : decide ((j : Int) < (C.ws.length : Int)) = false := decide_eq_false (by omega)
        have d1n : decide (j < C.ws.length) = false := decide_eq_false hlt
        have d3 : decide (j < C.ws.length ∧ j < 6) = false := decide_eq_false (by omega)
        have D3 := Aside0.mk d3
        clear d3
        go_wp2
        go_meet
        case rel => exact ⟨_, rfl, ⟨by first | exact D3.out | exact D3.out.symm | (rw [D3.out])⟩, rfl⟩
    case rest =>
      obtain ⟨b, rfl, HB, rfl⟩ := hcut
      cases b
      case true =>
        obtain ⟨hlt, h6⟩ := of_decide_eq_true HB.out.symm
        clear HB
        have hcs := at_T46 (Kd.C_below HX.out.w H.out.bel) (j : Int) (by omega) (by omega)
        rw [show rd_T46 C.ws (j : Int) = C.ws[j] by simp [rd_T46, hlt], Int.toNat_natCast] at hcs
        generalize C.ws[j] = x at hcs
        obtain ⟨ad, rfl, e0, e1, e2⟩ := hcs
        have hj0 : 0 ≤ (j : Int) := by omega
        have hj1 : (j : Int) < C.ws.length := by omega
        have en0 : 0 ≤ endW 0 ws := chain_end HL.out.2.1
        have en1 : endW 0 ws ≤ 48 := by have := HL.out.2.2.1; omega
        go_upto_region 6 with (first | fail)
        have o0 := (blk_cell H.out.gb 0).trans (show _ = some (.int .i64 p) from rfl)
        have nb0 := near_b x.f0 (-1) (m := p + 1) (by omega)
        have nb1 := near_b x.f1 0 (m := 3) (by omega)
        have nb2 := near_b x.f2 1 (m := 6) (by omega)
        have hpi : IntKind.i64.wrap (p + 1) = p + 1 := IntWalk.i64_in _ (by omega)
        have hsi : IntKind.i64.wrap (endW 0 ws + nearV x.f1 0 3) = endW 0 ws + nearV x.f1 0 3 := IntWalk.i64_in _ (by omega)
        have T6 := Aside0.mk (fun (W : World) (hb : Below wr.heap.size wr W) => And.intro (cell_b a2 hb) (And.intro (cell_b o0 hb) (And.intro (cell_b e0 hb) (And.intro (cell_b e1 hb) (cell_b e2 hb)))))
        go_region_held3 (fun w' => w'.cell? ⟨w.heap.size, 2, none⟩ = some (.slice (some ad) C.ws.length c2) ∧ w'.cell? ⟨ob, 0, none⟩ = some (.int .i64 p) ∧ w'.cell? (ad.add (j * 3)) = some (.int .i64 x.f0) ∧ w'.cell? ⟨(ad.add (j * 3)).block, (ad.add (j * 3)).off + 1, none⟩ = some (.int .i64 x.f1) ∧ w'.cell? ⟨(ad.add (j * 3)).block, (ad.add (j * 3)).off + 2, none⟩ = some (.int .i64 x.f2)) (first | exact T6.out _ (below_drew (Below.refl _ _)) | exact T6.out _ (below_alloc (below_drew (Below.refl _ _)) _) | exact T6.out _ (below_drew (below_alloc (Below.refl _ _) _)) | go_keep) (first | (go_at_call 28; refine (near_any _ _ _ (by omega) (by omega) _).mono ?_; rintro e w' ⟨rfl, rfl⟩))
        all_goals
          go_upto_region 7 with (first | fail)
          clear a0 a1 a2 a3 a4 o0 e0 e1 e2 hpi hsi T6
          have H6 := And.intro (H.out.far (below_drew (below_alloc (Below.refl wr.heap.size wr) (.cells #[.int .i64 (nearV x.f0 (-1) (p + 1)), .int .i64 (endW 0 ws + nearV x.f1 0 3), .int .i64 (nearV x.f2 1 6)] 46)))) (blk_drew (blk_new wr (.cells #[.int .i64 (nearV x.f0 (-1) (p + 1)), .int .i64 (endW 0 ws + nearV x.f1 0 3), .int .i64 (nearV x.f2 1 6)] 46)))
          revert H6
          generalize (wr.alloc (.cells #[.int .i64 (nearV x.f0 (-1) (p + 1)), .int .i64 (endW 0 ws + nearV x.f1 0 3), .int .i64 (nearV x.f2 1 6)] 46)).drew = W6
          generalize wr.heap.size = nb
          intro H6
          generalize nearV x.f0 (-1) (p + 1) = q0 at nb0 H6 ⊢
          generalize nearV x.f1 0 3 = q1 at nb1 H6 ⊢
          generalize nearV x.f2 1 6 = q2 at nb2 H6 ⊢
          have w0 := (blk_cell H6.2 0).trans (show _ = some (.int .i64 q0) from rfl)
          have w1 := (blk_cell H6.2 1).trans (show _ = some (.int .i64 (endW 0 ws + q1)) from rfl)
          have w2 := (blk_cell H6.2 2).trans (show _ = some (.int .i64 q2) from rfl)
          have o2 := (blk_cell H6.1.gb 2).trans (show _ = some v2 from rfl)
          have H6A := Aside0.mk H6.1
          clear H H6
          have hen : Aside0 (endW 0 (ws ++ [(⟨q0, endW 0 ws + q1, q2⟩ : S46)]) = endW 0 ws + q1 + q2) := ⟨endW_snoc⟩
          have HC : Aside0 (chain p 0 (ws ++ [(⟨q0, endW 0 ws + q1, q2⟩ : S46)])) := ⟨chain_snoc HL.out.2.1 ⟨⟨by show -1 ≤ q0; omega, by show q0 ≤ p - 1; omega⟩, by show 1 ≤ q2; omega, by show endW 0 ws ≤ endW 0 ws + q1; omega⟩⟩
          have hwl := HL.out.1
          obtain ⟨nb1a, nb1b⟩ := nb1
          obtain ⟨nb2a, nb2b⟩ := nb2
          have q1b : q1 ≤ 2 := by omega
          have q2b : q2 ≤ 6 := by omega
          have HWL := Aside0.mk hwl
          clear hwl nb1b nb2b
          generalize endW 0 ws = en at en0 en1 w1 HL hen HC H6A ⊢
          have HWN : Aside0 ((ws ++ [(⟨q0, en + q1, q2⟩ : S46)]).length = j + 1) := ⟨by rw [List.length_append, HWL.out]; rfl⟩
          obtain ⟨wz, hwz⟩ : ∃ wz, ws ++ [(⟨q0, en + q1, q2⟩ : S46)] = wz := ⟨_, rfl⟩
          rw [hwz] at hen HC HWN
          have HWZ := Aside0.mk hwz
          clear hwz
          go_wp2_with (first | ((with_reducible refine gate_builtin (b := .append) (xs := #[.tmp 58, .tmp 60]) rfl ?_); at_builtin; refine Kd.R_append k46 (w0 := w) w.heap.size rfl (.tmp 58) (.tmp 60) 22 46 (.agg #[.int .i64 0, .int .i64 0, .int .i64 0]) 24 rfl Tryd.underlying22 info46 rfl (by decide) (by decide) v2 ws ⟨q0, en + q1, q2⟩ [.int .i64 q0, .int .i64 (en + q1), .int .i64 q2] (fun k => w.heap.size ≤ k) (fun _ => False) rfl rfl ?aP (fun _ hk => hk.elim) ?aF H6A.out.r2 H6A.out.bel ?aS ?aL ?_; (case aP => exact k46_mkM _ _ _ (⟨q0, en + q1, q2⟩ : S46)); (case aF => exact (fun k hk => Nat.le_trans H6A.out.bel.size hk)); (case aS => exact H6A.out.bel.size); (case aL => rw [HWL.out]; omega); intro v9 w9 ho hb hg9 hat; rw [HWZ.out] at ho; obtain ⟨B9, d9, rfl, _, _⟩ := Kd.R_reads ho; have H9 := Aside0.mk (H6A.out.push2 ho hb hg9); have o29 := (blk_cell H9.out.gb 2).trans (show _ = some v2 from rfl); have of29 := blk_frozen H9.out.gb 2; clear ho hb hg9 hat))
          go_roundw
          case rel => exact ⟨j + 1, wz, _, by go_num, by omega, by rw [hen.out], ⟨HWN.out, HC.out, by rw [hen.out]; have := HL.out.2.2.1; omega, fun _ => by rw [hen.out]; omega⟩, ⟨H9.out.put 2 _ rfl⟩⟩
          case measure => simp [intOf]; omega
      case false =>
        clear HB
        obtain ⟨B2, d2, rfl, l2, s2⟩ := Kd.R_reads H.out.r2
        have HLE := HL.out
        have en0 : 0 ≤ endW 0 ws := chain_end HLE.2.1
        have en1 : endW 0 ws ≤ 48 := by have := HLE.2.2.1; omega
        clear s2 HLE
        obtain ⟨nb1, nb2⟩ := nb
        have HWLE := Aside0.mk (And.intro HL.out.1 (And.intro HL.out.2.1 HL.out.2.2.2))
        clear HL
        skip
        have o2 := (blk_cell H.out.gb 2).trans (show _ = some (.slice B2 ws.length d2) from rfl)
        have nbf := near_b C.f 0 (m := 3) (by omega)
        rcases Nat.eq_zero_or_pos ws.length with hz | hz
        case' inl =>
          have z1 : decide (((ws.length : Nat) : Int) = 0) = true := decide_eq_true (by omega)
          have z2 : (((ws.length : Nat) : Int) == 0) = true := beq_iff_eq.mpr (by omega)
          have z3 : decide (ws.length = 0) = true := decide_eq_true hz
          have HZ := Aside0.mk hz
          clear hz
          go_upto_region 10 with (first | fail)
          clear z1 z2 z3
          go_upto_region 11 with (first | (refine Kd.R_lit k46 w.heap.size 46 ?hg (N := 68) ?hd (xs := ([(⟨0, 0, 2⟩ : S46)] : List S46)) (inner := [.int .i64 0, .int .i64 0, .int .i64 2]) (ok := fun k => w.heap.size ≤ k) (okp := fun _ => False) ?hr ?hp (fun _ hk => hk.elim) H.out.bel.size H.out.bel H.out.bel.size (by simp) ?_; (case hd => rfl); (case hg => rfl); (case hr => first | (go_simp; done) | (go_simp; rfl)); (case hp => exact (Reps.c3 (show Kd.M k46 _ _ _ (⟨0, 0, 2⟩ : S46) [.int .i64 0, .int .i64 0, .int .i64 2] from (k46_mkM _ _ _ (⟨0, 0, 2⟩ : S46))) (Reps.none _ _))); intro v9 w9 ho hb hg9 hat; obtain ⟨B9, d9, rfl, _, _⟩ := Kd.R_reads ho; have H9 := Aside0.mk (H.out.lit2 ho hb hg9); have o29 := (blk_cell H9.out.gb 2).trans (show _ = some (.slice B2 ws.length d2) from rfl); have of29 := blk_frozen H9.out.gb 2; clear ho hb hg9 hat))
          have H10 := H9.out.put 2 (.slice B9 [(⟨0, 0, 2⟩ : S46)].length d9) (show _ = #[.int .i64 p, .int .i64 0, .slice B9 [(⟨0, 0, 2⟩ : S46)].length d9, .slice none 0 0, .slice none 0 0] from rfl)
          clear o2 o29 of29 H H9
          revert H10
          generalize (w9.setCell ⟨ob, 2, none⟩ (.slice B9 [(⟨0, 0, 2⟩ : S46)].length d9)) = W11
          intro H10
          have a1 := (blk_cell H10.pb 1).trans (show _ = some (.int .i64 C.f) from rfl)
          have o1 := (blk_cell H10.gb 1).trans (show _ = some (.int .i64 0) from rfl)
          have of1 := blk_frozen H10.gb 1
          have H := Aside0.mk H10
          clear H10
          go_upto_region 13 with (first | (go_at_call 28; refine (near_any _ _ _ (by omega) (by omega) _).mono ?_; rintro e w' ⟨rfl, rfl⟩))
          obtain ⟨f, hf⟩ : ∃ f, 2 + nearV C.f 0 3 = f := ⟨_, rfl⟩
          have HW : ∃ (wz : List S46) (vz : Value), Aside0 ((1 ≤ wz.length ∧ wz.length ≤ 6) ∧ chain p 0 wz ∧ endW 0 wz ≤ f ∧ 1 ≤ f ∧ f ≤ 64) ∧ Aside0 (GS w (W11.setCell ⟨ob, 1, none⟩ (.int .i64 (2 + nearV C.f 0 3))) ob #[.int .i64 C.p, .int .i64 C.f, .slice A2 C.ws.length c2, .slice A3 C.ks.length c3, .slice A4 C.ac.length c4] #[.int .i64 p, .int .i64 f, vz, .slice none 0 0, .slice none 0 0] vz (.slice none 0 0) (.slice none 0 0) wz [] []) :=
            ⟨[⟨0, 0, 2⟩], _, ⟨⟨by decide, by decide⟩, ⟨⟨⟨by decide, by show (0 : Int) ≤ p - 1; omega⟩, by decide, by decide⟩, trivial⟩, by show (0 + 2 : Int) ≤ f; omega, by omega, by omega⟩, ⟨H.out.put 1 _ (by rw [hf]; rfl)⟩⟩
          revert HW
          generalize (W11.setCell ⟨ob, 1, none⟩ (.int .i64 (2 + nearV C.f 0 3))) = W13
          intro HW
          clear H a1 o1 of1 hf HZ
        case' inr =>
          have z1 : decide (((ws.length : Nat) : Int) = 0) = false := decide_eq_false (by omega)
          have z2 : (((ws.length : Nat) : Int) == 0) = false := beq_eq_false_iff_ne.mpr (by omega)
          have z3 : decide (ws.length = 0) = false := decide_eq_false (by omega)
          have HZ := Aside0.mk hz
          clear hz
          go_upto_region 12 with (first | fail)
          clear z1 z2 z3 a0 a1 a2 a3 a4 o2
          have a1 := (blk_cell H.out.pb 1).trans (show _ = some (.int .i64 C.f) from rfl)
          have o1 := (blk_cell H.out.gb 1).trans (show _ = some (.int .i64 0) from rfl)
          have of1 := blk_frozen H.out.gb 1
          go_upto_region 13 with (first | (go_at_call 28; refine (near_any _ _ _ (by omega) (by omega) _).mono ?_; rintro e w' ⟨rfl, rfl⟩))
          obtain ⟨f, hf⟩ : ∃ f, endW 0 ws + nearV C.f 0 3 = f := ⟨_, rfl⟩
          have HW : ∃ (wz : List S46) (vz : Value), Aside0 ((1 ≤ wz.length ∧ wz.length ≤ 6) ∧ chain p 0 wz ∧ endW 0 wz ≤ f ∧ 1 ≤ f ∧ f ≤ 64) ∧ Aside0 (GS w (wr.setCell ⟨ob, 1, none⟩ (.int .i64 (endW 0 ws + nearV C.f 0 3))) ob #[.int .i64 C.p, .int .i64 C.f, .slice A2 C.ws.length c2, .slice A3 C.ks.length c3, .slice A4 C.ac.length c4] #[.int .i64 p, .int .i64 f, vz, .slice none 0 0, .slice none 0 0] vz (.slice none 0 0) (.slice none 0 0) wz [] []) :=
            ⟨ws, _, ⟨⟨HZ.out, by have := HWLE.out.1; omega⟩, HWLE.out.2.1, by omega, by have := HWLE.out.1; have := HZ.out; have := HWLE.out.2.2 (by omega); omega, by omega⟩, ⟨H.out.put 1 _ (by rw [hf]; rfl)⟩⟩
          revert HW
          generalize (wr.setCell ⟨ob, 1, none⟩ (.int .i64 (endW 0 ws + nearV C.f 0 3))) = W13
          intro HW
          clear H a1 o1 of1 hf HZ
        all_goals
          try clear a0
          try clear a1
          try clear a2
          try clear a3
          try clear a4
          clear nbf HWLE en0 en1 hj
          obtain ⟨wz, vz, HWZ, H⟩ := HW
          obtain ⟨B2z, d2z, rfl, _, _⟩ := Kd.R_reads H.out.r2
          obtain ⟨nw, hnw⟩ : ∃ nw, wz.length = nw := ⟨_, rfl⟩
          have HNW := Aside0.mk hnw
          rw [hnw] at H
          clear hnw
          go_wp2
          go_loopw [7] (fun v7 wr => ∃ (j : Nat) (ks : List S57) (v3 : Value), v7 = .int .i64 j ∧ j ≤ 5 ∧ Aside0 (ks.length ≤ j ∧ ∀ x ∈ ks, rB p x = true) ∧ Aside0 (GS w wr ob #[.int .i64 C.p, .int .i64 C.f, .slice A2 C.ws.length c2, .slice A3 C.ks.length c3, .slice A4 C.ac.length c4] #[.int .i64 p, .int .i64 f, .slice B2z nw d2z, v3, (.slice none 0 0)] (.slice B2z nw d2z) v3 (.slice none 0 0) wz ks [])) (fun v7 _ => 6 - (intOf v7).toNat)
          case atStart => exact ⟨0, [], _, rfl, by omega, ⟨by simp, fun x hx => (by cases hx)⟩, H⟩
          case round =>
            clear H
            obtain ⟨j, ks, v3, rfl, hj, HK, H⟩ := hrel
            obtain ⟨B3, d3, rfl, _, _⟩ := Kd.R_reads H.out.r3
            obtain ⟨nk, hnk⟩ : ∃ nk, ks.length = nk := ⟨_, rfl⟩
            have HNK := Aside0.mk hnk
            rw [hnk] at H
            clear hnk
            have a0 := (blk_cell H.out.pb 0).trans (show _ = some (.int .i64 C.p) from rfl)
            have a1 := (blk_cell H.out.pb 1).trans (show _ = some (.int .i64 C.f) from rfl)
            have a2 := (blk_cell H.out.pb 2).trans (show _ = some (.slice A2 C.ws.length c2) from rfl)
            have a3 := (blk_cell H.out.pb 3).trans (show _ = some (.slice A3 C.ks.length c3) from rfl)
            have a4 := (blk_cell H.out.pb 4).trans (show _ = some (.slice A4 C.ac.length c4) from rfl)
            have o0 := (blk_cell H.out.gb 0).trans (show _ = some (.int .i64 p) from rfl)
            go_upto_region 14 with (first | fail)
            go_cut [89] from 76 to 104 (fun v89 wx => ∃ b : Bool, v89 = .bool b ∧ Aside0 (b = decide (j < C.ks.length ∧ j < 5 ∧ 1 < p)) ∧ wr = wx)
            case first =>
              by_cases hlt : j < C.ks.length
              · have d1 : decide ((j : Int) < (C.ks.length : Int)) = true := decide_eq_true (by omega)
                have d1n : decide (j < C.ks.length) = true := decide_eq_true hlt
                by_cases h5 : j < 5
                · have d2 : decide ((j : Int) < 5) = true := decide_eq_true (by omega)
                  have d2n : decide (j < 5) = true := decide_eq_true h5
                  have d3 : decide (1 < p) = decide (j < C.ks.length ∧ j < 5 ∧ 1 < p) := decide_eq_decide.2 (by omega)
                  have D3 := Aside0.mk d3
                  clear d3
                  go_wp2
                  go_meet
                  case rel => exact ⟨_, rfl, ⟨by first | exact D3.out | exact D3.out.symm | (rw [D3.out])⟩, rfl⟩
                · have d2 : decide ((j : Int) < 5) = false := decide_eq_false (by omega)
                  have d2n : decide (j < 5) = false := decide_eq_false h5
                  have d3 : decide (j < C.ks.length ∧ j < 5 ∧ 1 < p) = false := decide_eq_false (by omega)
                  have D3 := Aside0.mk d3
                  clear d3
                  go_wp2
                  go_meet
                  case rel => exact ⟨_, rfl, ⟨by first | exact D3.out | exact D3.out.symm | (rw [D3.out])⟩, rfl⟩
              · have d1 : decide ((j : Int) < (C.ks.length : Int)) = false := decide_eq_false (by omega)
                have d1n : decide (j < C.ks.length) = false := decide_eq_false hlt
                have d3 : decide (j < C.ks.length ∧ j < 5 ∧ 1 < p) = false := decide_eq_false (by omega)
                have D3 := Aside0.mk d3
                clear d3
                go_wp2
                go_meet
                case rel => exact ⟨_, rfl, ⟨by first | exact D3.out | exact D3.out.symm | (rw [D3.out])⟩, rfl⟩
            case rest =>
              obtain ⟨b, rfl, HB, rfl⟩ := hcut
              cases b
              case true =>
                obtain ⟨hlt, h5, hp2⟩ := of_decide_eq_true HB.out.symm
                clear HB
                have hcs := at_T57 HX.out.k (j : Int) (by omega) (by omega)
                rw [show rd_T57 C.ks (j : Int) = C.ks[j] by simp [rd_T57, hlt], Int.toNat_natCast] at hcs
                generalize C.ks[j] = x at hcs
                obtain ⟨ad, hA3, e0, e1, e2, e3, e4, e5, e6, e7, e8, e9, e10⟩ := hcs
                have TK := Aside0.mk (fun (W : World) (hb : Below w.heap.size w W) => And.intro (cell_b e0 hb) (And.intro (cell_b e1 hb) (And.intro (cell_b e2 hb) (And.intro (cell_b e3 hb) (And.intro (cell_b e4 hb) (And.intro (cell_b e5 hb) (And.intro (cell_b e6 hb) (And.intro (cell_b e7 hb) (And.intro (cell_b e8 hb) (And.intro (cell_b e9 hb) (cell_b e10 hb)))))))))))
                clear e0 e1 e2 e3 e4 e5 e6 e7 e8 e9 e10
                subst hA3
                have hj0 : 0 ≤ (j : Int) := by omega
                have hj1 : (j : Int) < C.ks.length := by omega
                go_upto_region 16 with (first | fail)
                clear a0 a1 a2 a3 a4 o0
                refine start_ (n := 14) (S := fun w' => w'.heap[w.heap.size]? = some (.cells #[.int .i64 C.p, .int .i64 C.f, .slice A2 C.ws.length c2, .slice (some ad) C.ks.length c3, .slice A4 C.ac.length c4] 26 (0, 0)) ∧ w'.heap[ob]? = some (.cells #[.int .i64 p, .int .i64 f, .slice B2z nw d2z, (.slice B3 nk d3), (.slice none 0 0)] 26 (0, 0)) ∧ Below w.heap.size w w') (ds := [13]) #[false, false, false, false, false, false, false, false, false, false, false, false, false, false] (by kernel_rfl) rfl rfl ⟨H.out.pb, H.out.gb, below_drew H.out.bel⟩ (fun hHeld => ?_)
                have HD := Aside0.mk (H.out.far (below_drew (Below.refl wr.heap.size wr)))
                generalize wr.drew = W15 at HD hHeld ⊢
                refine pure_ (i := 0) (N := some 92) (v := ?_) (a' := ?_) #[true, false, false, false, false, false, false, false, false, false, false, false, false, false] rfl rfl (by kernel_rfl) (fun _ _ _ h => h) (Or.inl ⟨by rfl, ?_⟩) ?_ ?_
                rotate_left
                · intro w'
                  go_simp
                  with_reducible rfl
                rotate_left
                · simp only [Act.put, List.setIfInBounds_toArray, List.set_cons_zero, List.set_cons_succ, i64_w, i32_w]
                  rfl
                refine pure_ (i := 2) (N := some 94) (v := ?_) (a' := ?_) #[true, false, true, false, false, false, false, false, false, false, false, false, false, false] rfl rfl (by kernel_rfl) (fun _ _ _ h => h) (Or.inl ⟨by rfl, ?_⟩) ?_ ?_
                rotate_left
                · intro w'
                  go_simp
                  with_reducible rfl
                rotate_left
                · simp only [Act.put, List.setIfInBounds_toArray, List.set_cons_zero, List.set_cons_succ, i64_w, i32_w]
                  rfl
                refine pure_ (i := 4) (N := some 96) (v := ?_) (a' := ?_) #[true, false, true, false, true, false, false, false, false, false, false, false, false, false] rfl rfl (by kernel_rfl) (fun _ _ _ h => h) (Or.inl ⟨by rfl, ?_⟩) ?_ ?_
                rotate_left
                · intro w'
                  go_simp
                  with_reducible rfl
                rotate_left
                · simp only [Act.put, List.setIfInBounds_toArray, List.set_cons_zero, List.set_cons_succ, i64_w, i32_w]
                  rfl
                refine pure_ (i := 7) (N := some 99) (v := ?_) (a' := ?_) #[true, false, true, false, true, false, false, true, false, false, false, false, false, false] rfl rfl (by kernel_rfl) (fun _ _ _ h => h) (Or.inl ⟨by rfl, ?_⟩) ?_ ?_
                rotate_left
                · intro w'
                  go_simp
                  with_reducible rfl
                rotate_left
                · simp only [Act.put, List.setIfInBounds_toArray, List.set_cons_zero, List.set_cons_succ, i64_w, i32_w]
                  rfl
                refine take_ (i := 1) (N := some 93) (v := ?_) (a' := ?_) #[true, true, true, false, true, false, false, true, false, false, false, false, false, false] rfl rfl (by kernel_rfl) (fun _ _ _ h => h) (Or.inl ⟨by rfl, ?_⟩) hHeld ?_ ?_
                rotate_left
                · intro w' hSw
                  have o3 := (blk_cell hSw.2.1 3).trans (show _ = some (.slice B3 nk d3) from rfl)
                  go_simp
                  with_reducible rfl
                rotate_left
                · simp only [Act.put, List.setIfInBounds_toArray, List.set_cons_zero, List.set_cons_succ, i64_w, i32_w]
                  rfl
                refine take_ (i := 3) (N := some 95) (v := ?_) (a' := ?_) #[true, true, true, true, true, false, false, true, false, false, false, false, false, false] rfl rfl (by kernel_rfl) (fun _ _ _ h => h) (Or.inl ⟨by rfl, ?_⟩) hHeld ?_ ?_
                rotate_left
                · intro w' hSw
                  have a3 := (blk_cell hSw.1 3).trans (show _ = some (.slice (some ad) C.ks.length c3) from rfl)
                  go_simp
                  with_reducible rfl
                rotate_left
                · simp only [Act.put, List.setIfInBounds_toArray, List.set_cons_zero, List.set_cons_succ, i64_w, i32_w]
                  rfl
                refine pure_ (i := 5) (N := some 97) (v := ?_) (a' := ?_) #[true, true, true, true, true, true, false, true, false, false, false, false, false, false] rfl rfl (by kernel_rfl) (fun _ _ _ h => h) (Or.inl ⟨by rfl, ?_⟩) ?_ ?_
                rotate_left
                · intro w'
                  go_simp
                  with_reducible rfl
                rotate_left
                · simp only [Act.put, List.setIfInBounds_toArray, List.set_cons_zero, List.set_cons_succ, i64_w, i32_w]
                  rfl
                refine take_ (i := 6) (N := some 98) (v := ?_) (a' := ?_) #[true, true, true, true, true, true, true, true, false, false, false, false, false, false] rfl rfl (by kernel_rfl) (fun _ _ _ h => h) (Or.inl ⟨by rfl, ?_⟩) hHeld ?_ ?_
                rotate_left
                · intro w' hSw
                  obtain ⟨e0, e1, e2, e3, e4, e5, e6, e7, e8, e9, e10⟩ := TK.out _ hSw.2.2
                  go_simp
                  with_reducible rfl
                rotate_left
                · simp only [Act.put, List.setIfInBounds_toArray, List.set_cons_zero, List.set_cons_succ, i64_w, i32_w]
                  rfl
                refine take_ (i := 8) (N := some 100) (v := ?_) (a' := ?_) #[true, true, true, true, true, true, true, true, true, false, false, false, false, false] rfl rfl (by kernel_rfl) (fun _ _ _ h => h) (Or.inl ⟨by rfl, ?_⟩) hHeld ?_ ?_
                rotate_left
                · intro w' hSw
                  have o0 := (blk_cell hSw.2.1 0).trans (show _ = some (.int .i64 p) from rfl)
                  go_simp
                  with_reducible rfl
                rotate_left
                · simp only [Act.put, List.setIfInBounds_toArray, List.set_cons_zero, List.set_cons_succ, i64_w, i32_w]
                  rfl
                clear hHeld
                refine one_ (i := 9) (N := some 101) #[true, true, true, true, true, true, true, true, true, true, false, false, false, false] rfl rfl (by kernel_rfl) (by decide) (fun K hK => ?_)
                refine goes_ Tryd.func29 (by kernel_rfl) rfl #[.agg #[.int .i64 x.f0, .int .i64 x.f1, .int .i64 x.f2, .int .i64 x.f3, .int .i64 x.f4, .int .i64 x.f5, .int .i64 x.f6, .int .i64 x.f7, .int .i64 x.f8, .int .i64 x.f9, .int .i64 x.f10], .int .i64 p] (by rfl) rfl rfl (by (try simp only [List.map_toArray, List.map_cons, List.map_nil]); first | done | rfl | (simp only [List.length_drop, List.length_take]; rfl)) ?_
                (with_reducible refine (chan_any _ _ _ _ _ _ _ _ _ _ _ _ (by omega) _).mono ?_)
                rintro e w5 ⟨rfl, hb⟩
                refine ⟨_, rfl, ?_⟩
                have H5 := Aside0.mk (HD.out.far hb)
                clear hb HD
                refine hK.out _ _ ⟨H5.out.pb, H5.out.gb, H5.out.bel⟩ (fun hHeld => ?_)
                clear hK K
                refine norm_ (a' := ?_) ?_ ?_
                rotate_left
                · show Act.put _ (some 101) _ = _
                  simp only [Act.put, List.setIfInBounds_toArray, List.set_cons_zero, List.set_cons_succ, i64_w, i32_w]
                  rfl
                clear hHeld
                refine one_ (i := 10) (N := some 102) #[true, true, true, true, true, true, true, true, true, true, true, false, false, false] rfl rfl (by kernel_rfl) (by decide) (fun K hK => ?_)
                refine value_ (w1 := ?_) (v := ?_) (by rfl) rfl ?_ ?_
                rotate_left 2
                · go_simp
                  constructor
                  · rfl
                  · rfl
                have H6 := Aside0.mk (H5.out.far (below_alloc (Below.refl w5.heap.size w5) (.cells #[.int .i64 (chanV ⟨x.f0, x.f1, x.f2, x.f3, x.f4, x.f5, x.f6, x.f7, x.f8, x.f9, x.f10⟩ p).f0, .int .i64 (chanV ⟨x.f0, x.f1, x.f2, x.f3, x.f4, x.f5, x.f6, x.f7, x.f8, x.f9, x.f10⟩ p).f1, .int .i64 (chanV ⟨x.f0, x.f1, x.f2, x.f3, x.f4, x.f5, x.f6, x.f7, x.f8, x.f9, x.f10⟩ p).f2, .int .i64 (chanV ⟨x.f0, x.f1, x.f2, x.f3, x.f4, x.f5, x.f6, x.f7, x.f8, x.f9, x.f10⟩ p).f3, .int .i64 (chanV ⟨x.f0, x.f1, x.f2, x.f3, x.f4, x.f5, x.f6, x.f7, x.f8, x.f9, x.f10⟩ p).f4, .int .i64 (chanV ⟨x.f0, x.f1, x.f2, x.f3, x.f4, x.f5, x.f6, x.f7, x.f8, x.f9, x.f10⟩ p).f5, .int .i64 (chanV ⟨x.f0, x.f1, x.f2, x.f3, x.f4, x.f5, x.f6, x.f7, x.f8, x.f9, x.f10⟩ p).f6, .int .i64 (chanV ⟨x.f0, x.f1, x.f2, x.f3, x.f4, x.f5, x.f6, x.f7, x.f8, x.f9, x.f10⟩ p).f7, .int .i64 (chanV ⟨x.f0, x.f1, x.f2, x.f3, x.f4, x.f5, x.f6, x.f7, x.f8, x.f9, x.f10⟩ p).f8, .int .i64 (chanV ⟨x.f0, x.f1, x.f2, x.f3, x.f4, x.f5, x.f6, x.f7, x.f8, x.f9, x.f10⟩ p).f9, .int .i64 (chanV ⟨x.f0, x.f1, x.f2, x.f3, x.f4, x.f5, x.f6, x.f7, x.f8, x.f9, x.f10⟩ p).f10] 57)))
                refine hK.out _ _ ⟨H6.out.pb, H6.out.gb, H6.out.bel⟩ (fun hHeld => ?_)
                clear hK K
                refine norm_ (a' := ?_) ?_ ?_
                rotate_left
                · show Act.put _ (some 102) _ = _
                  simp only [Act.put, List.setIfInBounds_toArray, List.set_cons_zero, List.set_cons_succ, i64_w, i32_w]
                  rfl
                clear hHeld
                refine one_ (i := 11) (N := some 103) #[true, true, true, true, true, true, true, true, true, true, true, true, false, false] rfl rfl (by kernel_rfl) (by decide) (fun K hK => ?_)
                refine Kd.R_append_step k57 (w0 := w) w.heap.size (by rfl) (.tmp 93) (.tmp 102) 23 57 (.agg #[(.int .i64 0), (.int .i64 0), (.int .i64 0), (.int .i64 0), (.int .i64 0), (.int .i64 0), (.int .i64 0), (.int .i64 0), (.int .i64 0), (.int .i64 0), (.int .i64 0)]) 88 rfl Tryd.underlying23 info57 rfl (by decide) (by decide) (.slice B3 nk d3) ks (chanV ⟨x.f0, x.f1, x.f2, x.f3, x.f4, x.f5, x.f6, x.f7, x.f8, x.f9, x.f10⟩ p) [.int .i64 (chanV ⟨x.f0, x.f1, x.f2, x.f3, x.f4, x.f5, x.f6, x.f7, x.f8, x.f9, x.f10⟩ p).f0, .int .i64 (chanV ⟨x.f0, x.f1, x.f2, x.f3, x.f4, x.f5, x.f6, x.f7, x.f8, x.f9, x.f10⟩ p).f1, .int .i64 (chanV ⟨x.f0, x.f1, x.f2, x.f3, x.f4, x.f5, x.f6, x.f7, x.f8, x.f9, x.f10⟩ p).f2, .int .i64 (chanV ⟨x.f0, x.f1, x.f2, x.f3, x.f4, x.f5, x.f6, x.f7, x.f8, x.f9, x.f10⟩ p).f3, .int .i64 (chanV ⟨x.f0, x.f1, x.f2, x.f3, x.f4, x.f5, x.f6, x.f7, x.f8, x.f9, x.f10⟩ p).f4, .int .i64 (chanV ⟨x.f0, x.f1, x.f2, x.f3, x.f4, x.f5, x.f6, x.f7, x.f8, x.f9, x.f10⟩ p).f5, .int .i64 (chanV ⟨x.f0, x.f1, x.f2, x.f3, x.f4, x.f5, x.f6, x.f7, x.f8, x.f9, x.f10⟩ p).f6, .int .i64 (chanV ⟨x.f0, x.f1, x.f2, x.f3, x.f4, x.f5, x.f6, x.f7, x.f8, x.f9, x.f10⟩ p).f7, .int .i64 (chanV ⟨x.f0, x.f1, x.f2, x.f3, x.f4, x.f5, x.f6, x.f7, x.f8, x.f9, x.f10⟩ p).f8, .int .i64 (chanV ⟨x.f0, x.f1, x.f2, x.f3, x.f4, x.f5, x.f6, x.f7, x.f8, x.f9, x.f10⟩ p).f9, .int .i64 (chanV ⟨x.f0, x.f1, x.f2, x.f3, x.f4, x.f5, x.f6, x.f7, x.f8, x.f9, x.f10⟩ p).f10] (fun k => w.heap.size ≤ k) (fun _ => False) rfl rfl ?aP (fun _ hk => hk.elim) ?aF ?aO ?aB ?aS ?aL ?_
                (case aP => exact k57_mkM _ _ _ (chanV ⟨x.f0, x.f1, x.f2, x.f3, x.f4, x.f5, x.f6, x.f7, x.f8, x.f9, x.f10⟩ p))
                (case aB => exact H5.out.bel)
                (case aF => exact (fun k hk => Nat.le_trans H5.out.bel.size hk))
                (case aO => exact H5.out.r3)
                (case aS => exact H5.out.bel.size)
                (case aL => have := HNK.out; have := HK.out.1; omega)
                intro v7 w7 ho hb hg hat
                obtain ⟨kz, hkz⟩ : ∃ kz, ks ++ [chanV ⟨x.f0, x.f1, x.f2, x.f3, x.f4, x.f5, x.f6, x.f7, x.f8, x.f9, x.f10⟩ p] = kz := ⟨_, rfl⟩
                have HKZ : Aside0 (kz.length ≤ j + 1 ∧ ∀ x ∈ kz, rB p x = true) := ⟨by subst hkz; rw [List.length_append]; have := HK.out.1; simp only [List.length_cons, List.length_nil]; omega, fun y hy => (List.mem_append.1 (by rw [hkz]; exact hy)).elim (HK.out.2 y) (fun hy => by rw [List.mem_singleton.1 hy]; exact chanV_right _ (by omega))⟩
                rw [hkz] at ho
                clear hkz
                obtain ⟨B7, d7, rfl, _, _⟩ := Kd.R_reads ho
                have H7 := Aside0.mk ((H5.out).push3 ho hb hg)
                clear ho hb hg hat
                refine hK.out _ _ ⟨H7.out.pb, H7.out.gb, H7.out.bel⟩ (fun hHeld => ?_)
                clear hK K
                refine norm_ (a' := ?_) ?_ ?_
                rotate_left
                · show Act.put _ (some 103) _ = _
                  simp only [Act.put, List.setIfInBounds_toArray, List.set_cons_zero, List.set_cons_succ, i64_w, i32_w]
                  rfl
                refine pure_ (i := 12) (N := some 104) (v := ?_) (a' := ?_) #[true, true, true, true, true, true, true, true, true, true, true, true, true, false] rfl rfl (by kernel_rfl) (fun _ _ _ h => h) (Or.inl ⟨by rfl, ?_⟩) ?_ ?_
                rotate_left
                · intro w'
                  go_simp
                  with_reducible rfl
                rotate_left
                · simp only [Act.put, List.setIfInBounds_toArray, List.set_cons_zero, List.set_cons_succ, i64_w, i32_w]
                  rfl
                refine last_ (i := 13) (N := none) #[true, true, true, true, true, true, true, true, true, true, true, true, true, true] rfl rfl (by kernel_rfl) (by decide) (fun K hK => ?_)
                have o3 := (blk_cell H7.out.gb 3).trans (show _ = some (.slice B3 nk d3) from rfl)
                have of3 := blk_frozen H7.out.gb 3
                refine skip_ (w1 := ?_) (by rfl) rfl ?_ ?_
                rotate_left
                · go_simp
                  rfl
                refine hK.out _ _ ?_
                clear hK K
                refine done_ (by kernel_rfl) ?_
                go_wp2
                go_roundw
                case rel => exact ⟨j + 1, kz, .slice B7 kz.length d7, by go_num, by omega, HKZ, ⟨H7.out.put 3 (.slice B7 kz.length d7) rfl⟩⟩
                case measure => simp [intOf]; omega
              case false =>
                clear HB
                have HK5 : Aside0 (ks.length ≤ 5) := ⟨by have := HK.out.1; omega⟩
                go_wp2
                clear a0 a1 a2 a3 a4 o0 hj
                go_loopw [8] (fun v8 wr => ∃ (j : Nat) (ac : List Int) (v4 : Value), v8 = .int .i64 j ∧ (j : Int) ≤ p ∧ Aside0 (ac.length = j ∧ ∀ n ∈ ac, 0 ≤ n ∧ n ≤ 2) ∧ Aside0 (GS w wr ob #[.int .i64 C.p, .int .i64 C.f, .slice A2 C.ws.length c2, .slice A3 C.ks.length c3, .slice A4 C.ac.length c4] #[.int .i64 p, .int .i64 f, .slice B2z nw d2z, .slice B3 nk d3, v4] (.slice B2z nw d2z) (.slice B3 nk d3) v4 wz ks ac)) (fun v8 _ => 5 - (intOf v8).toNat)
                case atStart => exact ⟨0, [], _, rfl, by omega, ⟨rfl, fun x hx => (by cases hx)⟩, H⟩
                case round =>
                  clear H
                  obtain ⟨j, ac, v4, rfl, hj, HA, H⟩ := hrel
                  obtain ⟨B4, d4, rfl, _, _⟩ := Kd.R_reads H.out.r4
                  obtain ⟨na, hna⟩ : ∃ na, ac.length = na := ⟨_, rfl⟩
                  have HNA := Aside0.mk hna
                  rw [hna] at H
                  clear hna
                  have a0 := (blk_cell H.out.pb 0).trans (show _ = some (.int .i64 C.p) from rfl)
                  have a1 := (blk_cell H.out.pb 1).trans (show _ = some (.int .i64 C.f) from rfl)
                  have a2 := (blk_cell H.out.pb 2).trans (show _ = some (.slice A2 C.ws.length c2) from rfl)
                  have a3 := (blk_cell H.out.pb 3).trans (show _ = some (.slice A3 C.ks.length c3) from rfl)
                  have a4 := (blk_cell H.out.pb 4).trans (show _ = some (.slice A4 C.ac.length c4) from rfl)
                  have o0 := (blk_cell H.out.gb 0).trans (show _ = some (.int .i64 p) from rfl)
                  have hj0 : 0 ≤ (j : Int) := by omega
                  by_cases hjp : (j : Int) < p
                  · have e1 : decide ((j : Int) < p) = true := decide_eq_true hjp
                    have HCA := Aside0.mk (Kd.C_below HX.out.a H.out.bel)
                    go_upto_if 115 with (first | fail)
                    go_cut [9] from 105 to 127 (fun v9 wx => ∃ z : Int, v9 = .int .i64 z ∧ Aside0 (0 ≤ z ∧ z ≤ 2) ∧ wr = wx)
                    case first =>
                      by_cases hlt : j < C.ac.length
                      · have d1 : decide ((j : Int) < (C.ac.length : Int)) = true := decide_eq_true (by omega)
                        have d1n : decide (j < C.ac.length) = true := decide_eq_true hlt
                        obtain ⟨ad, hA4, hcell0⟩ := Kd.at_int HCA.out (j : Int) (by omega) (by omega)
                        rw [rd_get hlt, Int.toNat_natCast] at hcell0
                        generalize C.ac[j] = x at hcell0
                        subst hA4
                        have hj1 : (j : Int) < C.ac.length := by omega
                        go_wp2_with (first | (go_at_call 28; refine (near_any _ _ _ (by omega) (by omega) _).mono ?_; rintro e w' ⟨rfl, rfl⟩))
                        go_meet
                        have nbz := near_b x 0 (m := 3) (by omega)
                        case rel => exact ⟨_, rfl, ⟨by omega, by omega⟩, rfl⟩
                      · have d1 : decide ((j : Int) < (C.ac.length : Int)) = false := decide_eq_false (by omega)
                        have d1n : decide (j < C.ac.length) = false := decide_eq_false hlt
                        go_wp2
                        go_meet
                        case rel => exact ⟨0, rfl, ⟨by omega, by omega⟩, rfl⟩
                    case rest =>
                      obtain ⟨z, rfl, HZ, rfl⟩ := hcut
                      have o4 := (blk_cell H.out.gb 4).trans (show _ = some (.slice B4 na d4) from rfl)
                      obtain ⟨az, haz⟩ : ∃ az, ac ++ [z] = az := ⟨_, rfl⟩
                      have HAN : Aside0 (az.length = j + 1 ∧ ∀ n ∈ az, 0 ≤ n ∧ n ≤ 2) := ⟨by subst haz; rw [List.length_append, HA.out.1]; rfl, fun y hy => (List.mem_append.1 (by rw [haz]; exact hy)).elim (HA.out.2 y) (fun hy => by rw [List.mem_singleton.1 hy]; exact HZ.out)⟩
                      have HAZ := Aside0.mk haz
                      clear haz
                      go_wp2_with (first | ((with_reducible refine gate_builtin (b := .append) (xs := #[.tmp 123, .tmp 125]) rfl ?_); at_builtin; refine Kd.R_append (Kd.int .i64) (w0 := w) w.heap.size rfl (.tmp 123) (.tmp 125) 24 3 (.int .i64 0) 8 rfl Tryd.underlying24 info3 rfl (by decide) (by decide) (.slice B4 na d4) ac z [.int .i64 z] (fun k => w.heap.size ≤ k) (fun _ => False) rfl rfl ?aP (fun _ hk => hk.elim) ?aF H.out.r4 H.out.bel ?aS ?aL ?_; (case aP => exact rfl); (case aF => exact (fun k hk => Nat.le_trans H.out.bel.size hk)); (case aS => exact H.out.bel.size); (case aL => have := HA.out.1; omega); intro v9 w9 ho hb hg9 hat; rw [HAZ.out] at ho; obtain ⟨B9, d9, rfl, _, _⟩ := Kd.R_reads ho; have H9 := Aside0.mk (H.out.push4 ho hb hg9); have o49 := (blk_cell H9.out.gb 4).trans (show _ = some (.slice B4 na d4) from rfl); have of49 := blk_frozen H9.out.gb 4; clear ho hb hg9 hat))
                      go_roundw
                      case rel => exact ⟨j + 1, az, _, by go_num, by omega, HAN, ⟨H9.out.put 4 _ rfl⟩⟩
                      case measure => simp [intOf]; omega
                  · have e1 : decide ((j : Int) < p) = false := decide_eq_false hjp
                    have o1 := (blk_cell H.out.gb 1).trans (show _ = some (.int .i64 f) from rfl)
                    have o2 := (blk_cell H.out.gb 2).trans (show _ = some (.slice B2z nw d2z) from rfl)
                    have o3 := (blk_cell H.out.gb 3).trans (show _ = some (.slice B3 nk d3) from rfl)
                    have o4 := (blk_cell H.out.gb 4).trans (show _ = some (.slice B4 na d4) from rfl)
                    have r0 := (blk_cell H.out.rb 0).trans (show _ = some (.int .i64 0) from rfl)
                    have rf0 := blk_frozen H.out.rb 0
                    have r1 := (blk_cell H.out.rb 1).trans (show _ = some (.int .i64 0) from rfl)
                    have rf1 := blk_frozen H.out.rb 1
                    have r2 := (blk_cell H.out.rb 2).trans (show _ = some (.slice none 0 0) from rfl)
                    have rf2 := blk_frozen H.out.rb 2
                    have r3 := (blk_cell H.out.rb 3).trans (show _ = some (.slice none 0 0) from rfl)
                    have rf3 := blk_frozen H.out.rb 3
                    have r4 := (blk_cell H.out.rb 4).trans (show _ = some (.slice none 0 0) from rfl)
                    have rf4 := blk_frozen H.out.rb 4
                    clear a0 a1 a2 a3 a4
                    go_wp2
                    have q0 := blk_put H.out.rb 0 (.int .i64 p) (show _ = #[.int .i64 p, .int .i64 0, .slice none 0 0, .slice none 0 0, .slice none 0 0] from rfl)
                    have q1 := blk_put q0 1 (.int .i64 f) (show _ = #[.int .i64 p, .int .i64 f, .slice none 0 0, .slice none 0 0, .slice none 0 0] from rfl)
                    have q2 := blk_put q1 2 (.slice B2z nw d2z) (show _ = #[.int .i64 p, .int .i64 f, .slice B2z nw d2z, .slice none 0 0, .slice none 0 0] from rfl)
                    have q3 := blk_put q2 3 (.slice B3 nk d3) (show _ = #[.int .i64 p, .int .i64 f, .slice B2z nw d2z, .slice B3 nk d3, .slice none 0 0] from rfl)
                    have q4 := blk_put q3 4 (.slice B4 na d4) (show _ = #[.int .i64 p, .int .i64 f, .slice B2z nw d2z, .slice B3 nk d3, .slice B4 na d4] from rfl)
                    have HQ := Aside0.mk q4
                    have HNK2 := HNK.out
                    have HNW2 := HNW.out
                    have HNA2 := HNA.out
                    clear q0 q1 q2 q3 q4 o0 o1 o2 o3 o4 r0 rf0 r1 rf1 r2 rf2 r3 rf3 r4 rf4
                    have HE : GR w (.returned (.agg #[.int .i64 p, .int .i64 f, .slice B2z nw d2z, .slice B3 nk d3, .slice B4 na d4])) (((((wr.setCell ⟨w.heap.size + 1, 0, none⟩ (.int .i64 p)).setCell ⟨w.heap.size + 1, 1, none⟩ (.int .i64 f)).setCell ⟨w.heap.size + 1, 2, none⟩ (.slice B2z nw d2z)).setCell ⟨w.heap.size + 1, 3, none⟩ (.slice B3 nk d3)).setCell ⟨w.heap.size + 1, 4, none⟩ (.slice B4 na d4)) :=
                      good_end5 H.out ⟨by show 1 ≤ p ∧ p ≤ 4; omega, HWZ.out.2.2.2, HWZ.out.1, HWZ.out.2.1, HWZ.out.2.2.1, HK5.out, HK.out.2, by show (ac.length : Int) = p; have := HA.out.1; omega, HA.out.2⟩
                    have HEA := Aside0.mk HE
                    clear HE HNK2 HNW2 HNA2
                    refine bodyPost_ret (results_cell_row rfl _ _ (w.heap.size + 1) 26 #[.int .i64 p, .int .i64 f, .slice B2z nw d2z, .slice B3 nk d3, .slice B4 na d4] (0, 0) _ rfl HQ.out T.out rfl (by kernel_rfl)) rfl ?_
                    exact HEA.out
end Go.Proofs.YtdebbanloopcgaaDoor.Cf
