/- Layer 5 (table): the memory of the document's read. -/
import Derived.Test.YtdebbanloopcgaaDoorTbT
set_option linter.unusedVariables false
set_option linter.unusedSimpArgs false
namespace Go.Proofs.YtdebbanloopcgaaDoor.Tb
open Go Go.RowKit Go.Proofs.YtdebbanloopcgaaDoorW.PrintWords Go.Proofs.YtdebbanloopcgaaDoorW.PrintLast Go.Proofs.YtdebbanloopcgaaDoorW.PrintMore Go.Proofs.YtdebbanloopcgaaDoor.Cz Go.Proofs.YtdebbanloopcgaaDoor.PTableWrites Go.Proofs.YtdebbanloopcgaaDoor.Cf
theorem own_ne' {α β : Type} {d : Kd α} {d' : Kd β} {e e' base base' : Nat} {ok ok' : Nat → Prop} {W : World} {u v : Value} {l : List α} {l' : List β} (h : d.R e W base ok u l) (h' : d'.R e' W base' ok' v l') (hT : e ≠ e') : ∀ k, v.ownBlock = some k → some k ≠ u.ownBlock := by
  intro k hk
  obtain ⟨inner, ho⟩ := Kd.R_own h'
  obtain ⟨cells, hc⟩ := own_typed ho k hk
  exact Kd.R_ne h hc hT
/-- A row of numbers that a variable of type X holds. -/
structure LRow where
  q : Nat
  g : Nat
  cg : Nat
  n : Nat
  ls : List Int
structure LK (w W : World) (l : LRow) : Prop where
  bk : ∃ a0 a1, W.heap[l.q]? = some (.cells #[a0, a1, .slice (some ⟨l.g, 0, none⟩) l.n l.cg] 71 (0, 0))
  oi : Wi.OI .i64 3 w W (.slice (some ⟨l.g, 0, none⟩) l.n l.cg) l.ls
  hq : w.heap.size ≤ l.q
section
variable {w W W' : World} {l : LRow}
theorem LK.far (h : LK w W l) (hb : Below W.heap.size W W') : LK w W' l := by
  obtain ⟨a0, a1, h1⟩ := h.bk
  exact ⟨⟨a0, a1, blk_below h1 hb⟩, h.oi.far hb, h.hq⟩
theorem LK.lt (h : LK w W l) : l.g < W.heap.size := by
  obtain ⟨_, cells, hc⟩ := h.oi.typed l.g rfl
  exact blk_lt hc
/-- A block of another type is written. -/
theorem LK.kept (h : LK w W l) {b t : Nat} {cs : Array Value} (hb : W.heap[b]? = some (.cells cs t (0, 0))) (h1 : t ≠ 71) (h2 : 3 ≠ t) (hle : w.heap.size ≤ b) (hg : W.grownBy W' (some b)) : LK w W' l := by
  obtain ⟨a0, a1, hq⟩ := h.bk
  exact ⟨⟨a0, a1, blk_grown hq hg (fun e => blk_ne hb hq h1 (Option.some.inj e).symm)⟩, h.oi.grown hg (fun k hk => by cases hk; exact hle) (fun k hk => by cases hk; exact fun e => Kd.R_ne h.oi.r hb h2 e.symm), h.hq⟩
/-- A reader is stored into a variable of type X. -/
theorem LK.xt (h : LK w W l) {q : Nat} {a0 a1 b0 b1 v : Value} (hb : W.heap[q]? = some (.cells #[a0, a1, v] 71 (0, 0))) (hb' : W'.heap[q]? = some (.cells #[b0, b1, v] 71 (0, 0))) (hle : w.heap.size ≤ q) (hg : W.grownBy W' (some q)) : LK w W' l := by
  obtain ⟨c0, c1, hq⟩ := h.bk
  refine ⟨?_, h.oi.grown hg (fun k hk => by cases hk; exact hle) (fun k hk => by cases hk; exact fun e => Kd.R_ne h.oi.r hb (by decide) e.symm), h.hq⟩
  by_cases e : l.q = q
  · rw [e] at hq ⊢
    have := hq.symm.trans hb
    simp at this
    rw [hb', this.2.2]
    exact ⟨b0, b1, rfl⟩
  · exact ⟨c0, c1, blk_grown hq hg (fun k => e (Option.some.inj k))⟩
/-- A row of another type grows. -/
theorem LK.row (h : LK w W l) {α : Type} {d : Kd α} {e : Nat} {v : Value} {xs : List α} (hr : d.R e W w.heap.size (fun k => w.heap.size ≤ k) v xs) (h1 : e ≠ 71) (h2 : v.ownBlock ≠ some l.g) (hg : W.grownBy W' v.ownBlock) : LK w W' l := by
  obtain ⟨a0, a1, hq⟩ := h.bk
  exact ⟨⟨a0, a1, blk_grown hq hg (Kd.R_ne hr hq h1)⟩, h.oi.grown hg (fun k hk => hr.1 k hk) (fun k hk e => by rw [hk] at h2; exact h2 (congrArg some (Option.some.inj e).symm)), h.hq⟩
theorem LK.cell (h : LK w W l) {i : Nat} (hi : i < l.n) : W.cell? ⟨l.g, i, none⟩ = some (.int .i64 (rd l.ls i)) := (h.oi.cell hi).1
end
/-- read's blocks: the results' cells, the config, the reader; its rows. -/
structure RB (wb w W : World) (q2 q3 q4 q5 : Nat) (A : Option Addr) (c : Nat) (r : Wi.Rd) (vX : Value) (p f : Int) (v2 v3 v4 : Value) (ws : List S46) (ks : List S57) (ac : List Int) (L : List LRow) : Prop where
  r2 : W.heap[q2]? = some (.cells #[.int .i64 0, .int .i64 0, .slice none 0 0, .slice none 0 0, .slice none 0 0] 26 (0, 0))
  r3 : W.heap[q3]? = some (.cells #[.slice none 0 0, .int .i64 0] 69 (0, 0))
  cb : W.heap[q4]? = some (.cells #[.int .i64 p, .int .i64 f, v2, v3, v4] 26 (0, 0))
  xb : W.heap[q5]? = some (.cells #[.slice A r.b.length c, .int .i64 r.e, vX] 71 (0, 0))
  ci : Wi.CI .u8 wb A c r.b
  o2 : k46.R 46 W w.heap.size (fun k => w.heap.size ≤ k) v2 ws
  o3 : k57.R 57 W w.heap.size (fun k => w.heap.size ≤ k) v3 ks
  o4 : (Kd.int .i64).R 3 W w.heap.size (fun k => w.heap.size ≤ k) v4 ac
  bel : Below w.heap.size w W
  g2 : w.heap.size ≤ q2
  g3 : w.heap.size ≤ q3
  g4 : w.heap.size ≤ q4
  g5 : w.heap.size ≤ q5
  ne : q2 ≠ q4
  rows : ∀ l ∈ L, LK w W l
  dis : ∀ l ∈ L, v4.ownBlock ≠ some l.g
section
variable {wb w W W' : World} {q2 q3 q4 q5 : Nat} {A A' : Option Addr} {c c' : Nat} {r r' : Wi.Rd} {vX : Value} {p f : Int} {v2 v3 v4 v' : Value} {ws ws' : List S46} {ks ks' : List S57} {ac ac' : List Int} {L : List LRow}
theorem RB.far (h : RB wb w W q2 q3 q4 q5 A c r vX p f v2 v3 v4 ws ks ac L) (hb : Below W.heap.size W W') : RB wb w W' q2 q3 q4 q5 A c r vX p f v2 v3 v4 ws ks ac L :=
  ⟨blk_below h.r2 hb, blk_below h.r3 hb, blk_below h.cb hb, blk_below h.xb hb, h.ci, Kd.R_below h.o2 hb, Kd.R_below h.o3 hb, Kd.R_below h.o4 hb, below_step h.bel hb, h.g2, h.g3, h.g4, h.g5, h.ne, fun l hl => (h.rows l hl).far hb, h.dis⟩
/-- A number of the config is written. -/
theorem RB.putC (h : RB wb w W q2 q3 q4 q5 A c r vX p f v2 v3 v4 ws ks ac L) {p' f' : Int} (j : Nat) (v : Value) (e : #[.int .i64 p, .int .i64 f, v2, v3, v4].setIfInBounds j v = #[.int .i64 p', .int .i64 f', v2, v3, v4]) : RB wb w (W.setCell ⟨q4, j, none⟩ v) q2 q3 q4 q5 A c r vX p' f' v2 v3 v4 ws ks ac L :=
  ⟨blk_far (p := ⟨q4, j, none⟩) h.r2 h.ne v, blk_far (p := ⟨q4, j, none⟩) h.r3 (fun e => blk_ne h.r3 h.cb (by decide) e) v, blk_put h.cb j v e, blk_far (p := ⟨q4, j, none⟩) h.xb (fun e => blk_ne h.xb h.cb (by decide) e) v, h.ci, Kd.R_set h.o2 h.cb (by decide) j v, Kd.R_set h.o3 h.cb (by decide) j v, Kd.R_set h.o4 h.cb (by decide) j v, below_set h.bel h.g4, h.g2, h.g3, h.g4, h.g5, h.ne, fun l hl => (h.rows l hl).kept h.cb (by decide) (by decide) h.g4 (grown_set _ q4 j v), h.dis⟩
/-- A reader is stored. -/
theorem RB.putX (h : RB wb w W q2 q3 q4 q5 A c r vX p f v2 v3 v4 ws ks ac L) (hc : Wi.CI .u8 wb A' c' r'.b) : RB wb w ((W.setCell ⟨q5, 0, none⟩ (.slice A' r'.b.length c')).setCell ⟨q5, 1, none⟩ (.int .i64 r'.e)) q2 q3 q4 q5 A' c' r' vX p f v2 v3 v4 ws ks ac L := by
  have hb' := blk_put (blk_put h.xb 0 (.slice A' r'.b.length c') rfl) 1 (.int .i64 r'.e) rfl
  have hg := World.grownBy.trans (grown_set W q5 0 (.slice A' r'.b.length c')) (grown_set _ q5 1 (.int .i64 r'.e))
  have s2 := Kd.R_set (Kd.R_set h.o2 h.xb (by decide) 0 (.slice A' r'.b.length c')) (blk_set h.xb 0 _) (by decide) 1 (.int .i64 r'.e)
  have s3 := Kd.R_set (Kd.R_set h.o3 h.xb (by decide) 0 (.slice A' r'.b.length c')) (blk_set h.xb 0 _) (by decide) 1 (.int .i64 r'.e)
  have s4 := Kd.R_set (Kd.R_set h.o4 h.xb (by decide) 0 (.slice A' r'.b.length c')) (blk_set h.xb 0 _) (by decide) 1 (.int .i64 r'.e)
  exact ⟨blk_grown h.r2 hg (fun e => blk_ne h.r2 h.xb (by decide) (Option.some.inj e)), blk_grown h.r3 hg (fun e => blk_ne h.r3 h.xb (by decide) (Option.some.inj e)), blk_grown h.cb hg (fun e => blk_ne h.cb h.xb (by decide) (Option.some.inj e)), hb', hc, s2, s3, s4, below_set (below_set h.bel h.g5) h.g5, h.g2, h.g3, h.g4, h.g5, h.ne, fun l hl => (h.rows l hl).xt h.xb hb' h.g5 hg, h.dis⟩
theorem RB.push2 (h : RB wb w W q2 q3 q4 q5 A c r vX p f v2 v3 v4 ws ks ac L) (ho : k46.R 46 W' w.heap.size (fun k => w.heap.size ≤ k) v' ws') (hb : Below w.heap.size w W') (hg : W.grownBy W' v2.ownBlock) : RB wb w (W'.setCell ⟨q4, 2, none⟩ v') q2 q3 q4 q5 A c r vX p f v' v3 v4 ws' ks ac L ∧ W'.heap[q4]? = some (.cells #[.int .i64 p, .int .i64 f, v2, v3, v4] 26 (0, 0)) ∧ ∀ l ∈ L, LK w W' l := by
  have cb := blk_grown h.cb hg (Kd.R_ne h.o2 h.cb (by decide))
  have r2 := blk_grown h.r2 hg (Kd.R_ne h.o2 h.r2 (by decide))
  have r3 := blk_grown h.r3 hg (Kd.R_ne h.o2 h.r3 (by decide))
  have xb := blk_grown h.xb hg (Kd.R_ne h.o2 h.xb (by decide))
  have o3 := Kd.R_grown2 h.o3 rfl hg (own_ne' h.o3 h.o2 (by decide))
  have o4 := Kd.R_grown2 h.o4 rfl hg (own_ne' h.o4 h.o2 (by decide))
  have rw := fun l hl => (h.rows l hl).row h.o2 (by decide) (fun e => own_ne' (h.rows l hl).oi.r h.o2 (by decide) _ e rfl) hg
  exact ⟨⟨blk_far (p := ⟨q4, 2, none⟩) r2 h.ne v', blk_far (p := ⟨q4, 2, none⟩) r3 (fun e => blk_ne r3 cb (by decide) e) v', blk_put cb 2 v' rfl, blk_far (p := ⟨q4, 2, none⟩) xb (fun e => blk_ne xb cb (by decide) e) v', h.ci, Kd.R_set ho cb (by decide) 2 v', Kd.R_set o3 cb (by decide) 2 v', Kd.R_set o4 cb (by decide) 2 v', below_set hb h.g4, h.g2, h.g3, h.g4, h.g5, h.ne, fun l hl => (rw l hl).kept cb (by decide) (by decide) h.g4 (grown_set _ q4 2 v'), h.dis⟩, cb, rw⟩
theorem RB.push3 (h : RB wb w W q2 q3 q4 q5 A c r vX p f v2 v3 v4 ws ks ac L) (ho : k57.R 57 W' w.heap.size (fun k => w.heap.size ≤ k) v' ks') (hb : Below w.heap.size w W') (hg : W.grownBy W' v3.ownBlock) : RB wb w (W'.setCell ⟨q4, 3, none⟩ v') q2 q3 q4 q5 A c r vX p f v2 v' v4 ws ks' ac L ∧ W'.heap[q4]? = some (.cells #[.int .i64 p, .int .i64 f, v2, v3, v4] 26 (0, 0)) ∧ ∀ l ∈ L, LK w W' l := by
  have cb := blk_grown h.cb hg (Kd.R_ne h.o3 h.cb (by decide))
  have r2 := blk_grown h.r2 hg (Kd.R_ne h.o3 h.r2 (by decide))
  have r3 := blk_grown h.r3 hg (Kd.R_ne h.o3 h.r3 (by decide))
  have xb := blk_grown h.xb hg (Kd.R_ne h.o3 h.xb (by decide))
  have o2 := Kd.R_grown2 h.o2 rfl hg (own_ne' h.o2 h.o3 (by decide))
  have o4 := Kd.R_grown2 h.o4 rfl hg (own_ne' h.o4 h.o3 (by decide))
  have rw := fun l hl => (h.rows l hl).row h.o3 (by decide) (fun e => own_ne' (h.rows l hl).oi.r h.o3 (by decide) _ e rfl) hg
  exact ⟨⟨blk_far (p := ⟨q4, 3, none⟩) r2 h.ne v', blk_far (p := ⟨q4, 3, none⟩) r3 (fun e => blk_ne r3 cb (by decide) e) v', blk_put cb 3 v' rfl, blk_far (p := ⟨q4, 3, none⟩) xb (fun e => blk_ne xb cb (by decide) e) v', h.ci, Kd.R_set o2 cb (by decide) 3 v', Kd.R_set ho cb (by decide) 3 v', Kd.R_set o4 cb (by decide) 3 v', below_set hb h.g4, h.g2, h.g3, h.g4, h.g5, h.ne, fun l hl => (rw l hl).kept cb (by decide) (by decide) h.g4 (grown_set _ q4 3 v'), h.dis⟩, cb, rw⟩
theorem RB.push4 (h : RB wb w W q2 q3 q4 q5 A c r vX p f v2 v3 v4 ws ks ac L) (ho : (Kd.int .i64).R 3 W' w.heap.size (fun k => w.heap.size ≤ k) v' ac') (hb : Below w.heap.size w W') (hg : W.grownBy W' v4.ownBlock) (hat : v'.ownBlock = v4.ownBlock ∨ ∃ b, v'.ownBlock = some b ∧ W.heap.size ≤ b) : RB wb w (W'.setCell ⟨q4, 4, none⟩ v') q2 q3 q4 q5 A c r vX p f v2 v3 v' ws ks ac' L ∧ W'.heap[q4]? = some (.cells #[.int .i64 p, .int .i64 f, v2, v3, v4] 26 (0, 0)) ∧ ∀ l ∈ L, LK w W' l := by
  have cb := blk_grown h.cb hg (Kd.R_ne h.o4 h.cb (by decide))
  have r2 := blk_grown h.r2 hg (Kd.R_ne h.o4 h.r2 (by decide))
  have r3 := blk_grown h.r3 hg (Kd.R_ne h.o4 h.r3 (by decide))
  have xb := blk_grown h.xb hg (Kd.R_ne h.o4 h.xb (by decide))
  have o2 := Kd.R_grown2 h.o2 rfl hg (own_ne' h.o2 h.o4 (by decide))
  have o3 := Kd.R_grown2 h.o3 rfl hg (own_ne' h.o3 h.o4 (by decide))
  have rw := fun l hl => (h.rows l hl).row h.o4 (by decide) (h.dis l hl) hg
  have ds : ∀ l ∈ L, v'.ownBlock ≠ some l.g := fun l hl => by
    rcases hat with e | ⟨b, e, hle⟩
    · rw [e]; exact h.dis l hl
    · rw [e]
      have := (h.rows l hl).lt
      intro he
      have := Option.some.inj he
      omega
  exact ⟨⟨blk_far (p := ⟨q4, 4, none⟩) r2 h.ne v', blk_far (p := ⟨q4, 4, none⟩) r3 (fun e => blk_ne r3 cb (by decide) e) v', blk_put cb 4 v' rfl, blk_far (p := ⟨q4, 4, none⟩) xb (fun e => blk_ne xb cb (by decide) e) v', h.ci, Kd.R_set o2 cb (by decide) 4 v', Kd.R_set o3 cb (by decide) 4 v', Kd.R_set ho cb (by decide) 4 v', below_set hb h.g4, h.g2, h.g3, h.g4, h.g5, h.ne, fun l hl => (rw l hl).kept cb (by decide) (by decide) h.g4 (grown_set _ q4 4 v'), ds⟩, cb, rw⟩
/-- A variable of type X is made of what take gives. -/
theorem RB.more (h : RB wb w W q2 q3 q4 q5 A c r vX p f v2 v3 v4 ws ks ac L) {g cg n : Nat} {ls : List Int} {a0 a1 : Value} (ho : Wi.OI .i64 3 W W' (.slice (some ⟨g, 0, none⟩) n cg) ls) (hge : W.heap.size ≤ g) :
    RB wb w (W'.alloc (.cells #[a0, a1, .slice (some ⟨g, 0, none⟩) n cg] 71)) q2 q3 q4 q5 A c r vX p f v2 v3 v4 ws ks ac (⟨W'.heap.size, g, cg, n, ls⟩ :: L) := by
  have hb := below_alloc (Below.refl W'.heap.size W') (.cells #[a0, a1, .slice (some ⟨g, 0, none⟩) n cg] 71)
  have h' := (h.far ho.bel).far hb
  refine ⟨h'.r2, h'.r3, h'.cb, h'.xb, h'.ci, h'.o2, h'.o3, h'.o4, h'.bel, h'.g2, h'.g3, h'.g4, h'.g5, h'.ne, fun l hl => ?_, fun l hl => ?_⟩
  · rcases List.mem_cons.1 hl with rfl | hl
    · exact ⟨⟨a0, a1, blk_new _ _⟩, (ho.less h.bel).far hb, (h.far ho.bel).bel.size⟩
    · exact h'.rows l hl
  · rcases List.mem_cons.1 hl with rfl | hl
    · intro e
      obtain ⟨inner, hr⟩ := Kd.R_own h.o4
      obtain ⟨cells, hc⟩ := own_typed hr g e
      have := blk_lt hc
      omega
    · exact h'.dis l hl
/-- Rows that nothing reads any more are let go. -/
theorem RB.less {L' : List LRow} (h : RB wb w W q2 q3 q4 q5 A c r vX p f v2 v3 v4 ws ks ac L) (hs : ∀ l ∈ L', l ∈ L) : RB wb w W q2 q3 q4 q5 A c r vX p f v2 v3 v4 ws ks ac L' :=
  ⟨h.r2, h.r3, h.cb, h.xb, h.ci, h.o2, h.o3, h.o4, h.bel, h.g2, h.g3, h.g4, h.g5, h.ne, fun l hl => h.rows l (hs l hl), fun l hl => h.dis l (hs l hl)⟩
end
/-- take of a literal row of widths: the row of numbers is a block of its own. -/
theorem take_lit {wb : World} {A : Option Addr} {c : Nat} {r : Wi.Rd} (h : Wi.CI .u8 wb A c r.b) (hf : Wi.WF r.b) {w : World} (hb0 : Below wb.heap.size wb w) {A2 : Option Addr} {c2 n : Nat} {ns : List Int} (hw : Wi.CI .i64 w A2 c2 ns) (hl : ns.length ≤ 11) (hn : ns.length = n) (h0 : 0 < n) :
    Calls Tryd.prog 40 #[.agg #[.slice A r.b.length c, .int .i64 r.e, .slice none 0 0], .slice A2 n c2] w fun e w' => ∃ A' c' g cg, e = .returned (.agg #[.slice A' (nx r ns).b.length c', .int .i64 (nx r ns).e, .slice (some ⟨g, 0, none⟩) n cg]) ∧ Wi.CI .u8 wb A' c' (nx r ns).b ∧ Wi.OI .i64 3 w w' (.slice (some ⟨g, 0, none⟩) n cg) (vl r ns) ∧ w.heap.size ≤ g := by
  subst hn
  refine (take_any h hf hb0 hw hl).mono ?_
  rintro e w' ⟨A', c', v, rfl, hc, ho⟩
  obtain ⟨g, cg, rfl, hge⟩ := ho.shape (by rw [vl_len]; exact h0)
  rw [vl_len] at ho ⊢
  exact ⟨A', c', g, cg, rfl, hc, ho, hge⟩
end Go.Proofs.YtdebbanloopcgaaDoor.Tb
