/- Layer 4 (config): CfP, CfOneA, CfOne, laid into one text by wip/merge.py. -/
import Derived.Test.YtehcgojcmcahnaaDoorCfM3
import Derived.Test.YtehcgojcmcahnaaDoorCfGd
/- Layer 4 (config): one number of a row is set: what the row reads as. -/
set_option linter.unusedVariables false
set_option linter.unusedSimpArgs false
namespace Go.Proofs.YtehcgojcmcahnaaDoor.Cf
open Go.RowKit Go.Proofs.YtehcgojcmcahnaaDoorW.PrintWords Go.Proofs.YtehcgojcmcahnaaDoorW.PrintLast Go.Proofs.YtehcgojcmcahnaaDoorW.PrintMore Go.Proofs.YtehcgojcmcahnaaDoor.Cz Go.Proofs.YtehcgojcmcahnaaDoor.PConfigSame
theorem add0 (g m : Nat) : ((⟨g, 0, none⟩ : Addr).add m) = ⟨g, m, none⟩ := by unfold Addr.add; split <;> simp_all
theorem C_put {α : Type} {d : Kd α} {W : World} {g n : Nat} {T : TypeId} {xs : List α} {cur : Array Value} (h : Kd.C d W (some ⟨g, 0, none⟩) n xs) (hb : W.heap[g]? = some (.cells cur T (0, 0))) {k i : Nat} (hi : i < d.sz) {x x' : α} {v : Value}
    (hx : xs[k]? = some x) (hK : ∀ cs, d.K W x cs → d.K (W.setCell ⟨g, k * d.sz + i, none⟩ v) x' (cs.set i v)) (hmov : ∀ y cs, d.K W y cs → d.K (W.setCell ⟨g, k * d.sz + i, none⟩ v) y cs) :
    Kd.C d (W.setCell ⟨g, k * d.sz + i, none⟩ v) (some ⟨g, 0, none⟩) n (xs.set k x') := by
  obtain ⟨h1, h2, h3⟩ := h
  refine ⟨by simpa using h1, h2, fun hp => ?_⟩
  obtain ⟨ad, e1, h4⟩ := h3 hp
  cases e1
  refine ⟨_, rfl, fun j p hj => ?_⟩
  have hb' := blk_put hb (k * d.sz + i) v rfl
  by_cases hjk : k = j
  · subst hjk
    have hk : k < xs.length := (List.getElem?_eq_some_iff.1 hx).1
    obtain rfl : x' = p := by simpa [hk] using hj
    obtain ⟨cs, h5, h6, h7⟩ := h4 k x hx
    refine ⟨cs.set i v, by simpa using h5, hK cs h6, fun i' u hu => ?_⟩
    rw [add0, blk_cell hb']
    by_cases hii : i = i'
    · subst hii
      have h8 : (cs[i]?).isSome := by rw [List.getElem?_eq_getElem (by omega)]; rfl
      obtain ⟨u0, hu0⟩ := Option.isSome_iff_exists.1 h8
      have h9 := h7 i u0 hu0
      rw [add0, blk_cell hb] at h9
      have h10 : k * d.sz + i < cur.size := (Array.getElem?_eq_some_iff.1 h9).1
      have h11 : v = u := by simpa [show i < cs.length by omega] using hu
      subst h11
      simp [h10]
    · rw [List.getElem?_set_ne hii] at hu
      have h9 := h7 i' u hu
      rw [add0, blk_cell hb] at h9
      rw [Array.getElem?_setIfInBounds_ne (by omega)]
      exact h9
  · rw [List.getElem?_set_ne hjk] at hj
    obtain ⟨cs, h5, h6, h7⟩ := h4 j p hj
    refine ⟨cs, h5, hmov _ _ h6, fun i' u hu => ?_⟩
    have h9 := h7 i' u hu
    have hi' : i' < d.sz := by rw [← h5]; exact (List.getElem?_eq_some_iff.1 hu).1
    rw [add0, blk_cell hb] at h9
    rw [add0, blk_cell hb']
    have hne : k * d.sz + i ≠ j * d.sz + i' := by
      intro he
      rcases Nat.lt_or_gt_of_ne hjk with hlt | hgt
      · have : (k + 1) * d.sz ≤ j * d.sz := Nat.mul_le_mul_right _ hlt
        rw [Nat.succ_mul] at this
        omega
      · have : (j + 1) * d.sz ≤ k * d.sz := Nat.mul_le_mul_right _ hgt
        rw [Nat.succ_mul] at this
        omega
    rw [Array.getElem?_setIfInBounds_ne hne]
    exact h9
/-- A clone's row lies in one block of its own. -/
theorem ok_blk {α : Type} {d : Kd α} {T : TypeId} {w0 W : World} {A : Option Addr} {n c : Nat} {xs : List α} (h : OK d T w0 W (.slice A n c) xs) (hn : 0 < xs.length) : ∃ g cur, A = some ⟨g, 0, none⟩ ∧ w0.heap.size ≤ g ∧ W.heap[g]? = some (.cells cur T (0, 0)) := by
  obtain ⟨hc, hn', hl⟩ := h.ci
  obtain ⟨inner, ho⟩ := Kd.R_own h.r
  obtain ⟨h1, h2⟩ := ho
  rcases h2 with ⟨e, h3⟩ | ⟨g, cap, cur, e, hg, hcur, _⟩
  · injection e with e1 e2
    omega
  · injection e with e1 e2 e3
    exact ⟨g, cur, e1, hg, hcur⟩
theorem put33 {W : World} {g n : Nat} {T : TypeId} {xs : List S33} {cur : Array Value} (h : Kd.C k33 W (some ⟨g, 0, none⟩) n xs) (hb : W.heap[g]? = some (.cells cur T (0, 0))) {k : Nat} (hk : k < xs.length) (z : Int) :
    Kd.C k33 (W.setCell ⟨g, k * 3 + 2, none⟩ (.int .i64 z)) (some ⟨g, 0, none⟩) n (xs.set k ⟨xs[k].f0, xs[k].f1, z⟩) :=
  C_put (d := k33) h hb (i := 2) (show 2 < 3 by omega) (List.getElem?_eq_getElem hk) (fun cs hK => by rw [k33_open hK]; exact k33_mk _ ⟨xs[k].f0, xs[k].f1, z⟩) (fun y cs hK => by rw [k33_open hK]; exact k33_mk _ y)
theorem put35 {W : World} {g n : Nat} {T : TypeId} {xs : List S35} {cur : Array Value} (h : Kd.C k35 W (some ⟨g, 0, none⟩) n xs) (hb : W.heap[g]? = some (.cells cur T (0, 0))) {k : Nat} (hk : k < xs.length) (z : Int) :
    Kd.C k35 (W.setCell ⟨g, k * 11 + 2, none⟩ (.int .i64 z)) (some ⟨g, 0, none⟩) n (xs.set k ⟨xs[k].f0, xs[k].f1, z, xs[k].f3, xs[k].f4, xs[k].f5, xs[k].f6, xs[k].f7, xs[k].f8, xs[k].f9, xs[k].f10⟩) :=
  C_put (d := k35) h hb (i := 2) (show 2 < 11 by omega) (List.getElem?_eq_getElem hk) (fun cs hK => by rw [k35_open hK]; exact k35_mk _ ⟨xs[k].f0, xs[k].f1, z, xs[k].f3, xs[k].f4, xs[k].f5, xs[k].f6, xs[k].f7, xs[k].f8, xs[k].f9, xs[k].f10⟩) (fun y cs hK => by rw [k35_open hK]; exact k35_mk _ y)
theorem put3 {W : World} {g n : Nat} {T : TypeId} {xs : List Int} {cur : Array Value} (h : Kd.C (Kd.int .i64) W (some ⟨g, 0, none⟩) n xs) (hb : W.heap[g]? = some (.cells cur T (0, 0))) {k : Nat} (hk : k < xs.length) (z : Int) :
    Kd.C (Kd.int .i64) (W.setCell ⟨g, k, none⟩ (.int .i64 z)) (some ⟨g, 0, none⟩) n (xs.set k z) := by
  have := C_put (d := Kd.int .i64) (v := .int .i64 z) (x' := z) h hb (k := k) (i := 0) (show 0 < 1 by omega) (List.getElem?_eq_getElem hk) (fun cs hK => by
    have e : cs = [.int .i64 xs[k]] := hK
    rw [e]
    exact (show ([.int .i64 z] : List Value) = [.int .i64 z] from rfl)) (fun y cs hK => hK)
  have e : k * (Kd.int IntKind.i64).sz + 0 = k := by show k * 1 + 0 = k; omega
  rw [e] at this
  exact this
/-- A store into another block. -/
theorem C_far {α : Type} {d : Kd α} {W : World} {g h j n : Nat} {xs : List α} {v : Value} (hne : h ≠ g) (hc : Kd.C d W (some ⟨g, 0, none⟩) n xs) (hmov : ∀ y cs, d.K W y cs → d.K (W.setCell ⟨h, j, none⟩ v) y cs) : Kd.C d (W.setCell ⟨h, j, none⟩ v) (some ⟨g, 0, none⟩) n xs := by
  obtain ⟨h1, h2, h3⟩ := hc
  refine ⟨h1, h2, fun hp => ?_⟩
  obtain ⟨ad, e1, h4⟩ := h3 hp
  cases e1
  refine ⟨_, rfl, fun j' p hj => ?_⟩
  obtain ⟨cs, h5, h6, h7⟩ := h4 j' p hj
  refine ⟨cs, h5, hmov _ _ h6, fun i u hu => ?_⟩
  have h8 := h7 i u hu
  rw [add0] at h8 ⊢
  rw [World.cell?_setCell_far _ _ _ _ hne]
  exact h8
end Go.Proofs.YtehcgojcmcahnaaDoor.Cf

/- ConfigOne: one number that may never be. -/
set_option linter.unusedVariables false
set_option linter.unusedSimpArgs false
namespace Go.Proofs.YtehcgojcmcahnaaDoor.Cf
open Go.RowKit Go.Proofs.YtehcgojcmcahnaaDoorW.PrintWords Go.Proofs.YtehcgojcmcahnaaDoorW.PrintLast Go.Proofs.YtehcgojcmcahnaaDoorW.PrintMore Go.Proofs.YtehcgojcmcahnaaDoor.Cz Go.Proofs.YtehcgojcmcahnaaDoor.PConfigSame
attribute [local go_sem] max2_int min2_int max_two min_two max_three min_three max_four min_four Tryd.underlying26 Tryd.underlying33 Tryd.underlying35 Tryd.underlying30
/-! What Check answers where one number is made one that may never be. -/
theorem one_p {G : Cfg} (h : GoodC G) : chk ⟨5, G.f, G.ws, G.ks, G.ac⟩ = ⟨1, 0, 4⟩ := rfl
theorem one_f {G : Cfg} (h : GoodC G) : chk ⟨G.p, 0, G.ws, G.ks, G.ac⟩ = ⟨2, 0, 4⟩ := by
  unfold chk Cz.hd
  have a1 : btw G.p 1 4 = true := decide_eq_true h.p
  show (match (if btw G.p 1 4 = false then _ else _ : Option (Int × Int)) with | some x => _ | none => _) = _
  rw [a1]
  rfl
theorem hd_ok {p f : Int} {n : Nat} (h1 : 1 ≤ p ∧ p ≤ 4) (h2 : 1 ≤ f ∧ f ≤ 64) (h3 : 1 ≤ n ∧ n ≤ 6) : Cz.hd p f n = none := by
  unfold Cz.hd
  rw [show btw p 1 4 = true from decide_eq_true h1, show btw f 1 64 = true from decide_eq_true h2, show btw (n : Int) 1 8 = true from decide_eq_true (by omega)]
  rfl
theorem scan_bad {p f : Int} {y : S33} (hy : y.f2 < 1) : ∀ {en : Int} {l : List S33} (i k : Nat), k < l.length → chain p en l → 0 ≤ en → endW en l ≤ f → scanW p f en i (l.set k y) = some (i + k)
  | en, [], i, k, h, _, _, _ => by simp at h
  | en, x :: t, i, 0, _, h, h0, hf => by
    show (if badW p f en y = true then some i else _) = some i
    have : badW p f en y = true := by
      unfold badW
      rw [show decide (y.f2 < 1) = true from decide_eq_true hy]
      simp
    rw [if_pos this]
  | en, x :: t, i, k + 1, hk, h, h0, hf => by
    have h1 := chain_end h.2
    have h2 := h.1
    have h3 : endW (x.f1 + x.f2) t ≤ f := hf
    show (if badW p f en x = true then _ else scanW p f (x.f1 + x.f2) (i + 1) (t.set k y)) = some (i + (k + 1))
    rw [badW_ok h.1 h0 (by omega), if_neg (by decide), scan_bad hy (i + 1) k (by simpa using hk) h.2 (by omega) h3]
    congr 1
    omega
theorem find_bad {α : Type} {q : α → Bool} {y : α} (hy : q y = true) : ∀ {l : List α} (i k : Nat), k < l.length → (∀ x ∈ l, q x = false) → findI q (l.set k y) i = ((i + k : Nat) : Int)
  | [], i, k, h, _ => by simp at h
  | x :: t, i, 0, _, h => by
    show (if q y = true then _ else _) = _
    rw [if_pos hy]
    rfl
  | x :: t, i, k + 1, hk, h => by
    show (if q x = true then _ else findI q (t.set k y) (i + 1)) = _
    rw [h x (List.mem_cons_self ..), if_neg (by decide), find_bad hy (i + 1) k (by simpa using hk) fun z hz => h z (List.mem_cons_of_mem _ hz)]
    congr 1
    omega
theorem one_w {G : Cfg} (h : GoodC G) {k : Nat} (hk : k < G.ws.length) (y : S33) (hy : y.f2 = 0) : chk ⟨G.p, G.f, G.ws.set k y, G.ks, G.ac⟩ = ⟨3, k, 4⟩ := by
  unfold chk
  rw [hd_ok h.p h.f (by rw [List.length_set]; exact h.w)]
  show (match ls ⟨G.p, G.f, G.ws.set k y, G.ks, G.ac⟩ with | some x => (⟨x.1, x.2, 4⟩ : Ans) | none => ⟨0, 0, 0⟩) = _
  unfold ls
  rw [scan_bad (by omega) 0 k hk h.c (Int.le_refl _) h.e]
  simp
theorem one_k {G : Cfg} (h : GoodC G) {k : Nat} (hk : k < G.ks.length) (y : S35) (hy : y.f2 = y.f1) : chk ⟨G.p, G.f, G.ws, G.ks.set k y, G.ac⟩ = ⟨4, k, 4⟩ := by
  unfold chk
  rw [hd_ok h.p h.f h.w]
  have hq : (!rB G.p y) = true := by
    unfold rB rightB
    rw [hy]
    simp
  have h5 := h.k
  show (match ls ⟨G.p, G.f, G.ws, G.ks.set k y, G.ac⟩ with | some x => (⟨x.1, x.2, 4⟩ : Ans) | none => ⟨0, 0, 0⟩) = _
  unfold ls
  rw [scan_ok 0 h.c (Int.le_refl _) h.e]
  show (match (if 6 < (G.ks.set k y).length then _ else _ : Option (Int × Int)) with | some x => (⟨x.1, x.2, 4⟩ : Ans) | none => ⟨0, 0, 0⟩) = _
  rw [if_neg (by rw [List.length_set]; omega), find_bad (q := fun x => !rB G.p x) hq 0 k hk (fun x hx => by rw [h.r x hx]; rfl), if_pos (by omega)]
  simp
theorem one_a {G : Cfg} (h : GoodC G) {k : Nat} (hk : k < G.ac.length) : chk ⟨G.p, G.f, G.ws, G.ks, G.ac.set k (-1)⟩ = ⟨5, k, 4⟩ := by
  unfold chk
  rw [hd_ok h.p h.f h.w]
  have h5 := h.k
  have h6 := h.a
  show (match ls ⟨G.p, G.f, G.ws, G.ks, G.ac.set k (-1)⟩ with | some x => (⟨x.1, x.2, 4⟩ : Ans) | none => ⟨0, 0, 0⟩) = _
  unfold ls
  rw [scan_ok 0 h.c (Int.le_refl _) h.e]
  show (match (if 6 < G.ks.length then _ else _ : Option (Int × Int)) with | some x => (⟨x.1, x.2, 4⟩ : Ans) | none => ⟨0, 0, 0⟩) = _
  rw [if_neg (by omega), findI_none (fun x hx => by rw [h.r x hx]; rfl), if_neg (by decide), if_neg (by rw [List.length_set]; exact fun hh => hh h6), find_bad (q := fun n => !btw n 0 2) (by decide) 0 k hk (fun n hn => by rw [show btw n 0 2 = true from decide_eq_true (h.v n hn)]; rfl), if_pos (by omega)]
  simp
/-- Behind the clone: the config's block and the wanted place's, the clone's own rows. -/
structure OV (w0 W : World) (gb wb : Nat) (ws : List S33) (ks : List S35) (ac : List Int) (s2 s3 s4 : Value) (vp vf a b : Int) : Prop where
  bg : W.heap[gb]? = some (.cells #[.int .i64 vp, .int .i64 vf, s2, s3, s4] 26 (0, 0))
  bw : W.heap[wb]? = some (.cells #[.int .i64 a, .int .i64 b] 30 (0, 0))
  co : CO w0 W ws ks ac s2 s3 s4
  hg : w0.heap.size ≤ gb
  hw : w0.heap.size ≤ wb
theorem CO.keptT {w0 W W' : World} {ws : List S33} {ks : List S35} {ac : List Int} {v2 v3 v4 : Value} (h : CO w0 W ws ks ac v2 v3 v4) {b T : Nat} {cs : Array Value} (hb : W.heap[b]? = some (.cells cs T (0, 0))) (hle : w0.heap.size ≤ b) (h1 : T ≠ 33) (h2 : T ≠ 35) (h3 : T ≠ 3) (hg : W.grownBy W' (some b)) : CO w0 W' ws ks ac v2 v3 v4 :=
  ⟨h.o2.kept33 hb hle h1 hg, h.o3.kept35 hb hle h2 hg, h.o4.kept3 hb hle h3 hg⟩
section
variable {w0 W : World} {gb wb : Nat} {ws : List S33} {ks : List S35} {ac : List Int} {s2 s3 s4 : Value} {vp vf a b : Int}
theorem OV.far (h : OV w0 W gb wb ws ks ac s2 s3 s4 vp vf a b) {W' : World} (hb : Below W.heap.size W W') : OV w0 W' gb wb ws ks ac s2 s3 s4 vp vf a b := ⟨blk_below h.bg hb, blk_below h.bw hb, h.co.far hb, h.hg, h.hw⟩
theorem OV.bel (h : OV w0 W gb wb ws ks ac s2 s3 s4 vp vf a b) : Below w0.heap.size w0 W := h.co.o2.bel
theorem OV.putp (h : OV w0 W gb wb ws ks ac s2 s3 s4 vp vf a b) (z : Int) : OV w0 (W.setCell ⟨gb, 0, none⟩ (.int .i64 z)) gb wb ws ks ac s2 s3 s4 z vf a b :=
  ⟨blk_put h.bg 0 _ rfl, blk_far (p := ⟨gb, 0, none⟩) h.bw (blk_ne h.bw h.bg (by decide)) _, h.co.kept h.bg h.hg (grown_set _ _ _ _), h.hg, h.hw⟩
theorem OV.putf (h : OV w0 W gb wb ws ks ac s2 s3 s4 vp vf a b) (z : Int) : OV w0 (W.setCell ⟨gb, 1, none⟩ (.int .i64 z)) gb wb ws ks ac s2 s3 s4 vp z a b :=
  ⟨blk_put h.bg 1 _ rfl, blk_far (p := ⟨gb, 1, none⟩) h.bw (blk_ne h.bw h.bg (by decide)) _, h.co.kept h.bg h.hg (grown_set _ _ _ _), h.hg, h.hw⟩
theorem OV.putw (h : OV w0 W gb wb ws ks ac s2 s3 s4 vp vf a b) (y z : Int) : OV w0 ((W.setCell ⟨wb, 0, none⟩ (.int .i64 y)).setCell ⟨wb, 1, none⟩ (.int .i64 z)) gb wb ws ks ac s2 s3 s4 vp vf y z := by
  have b1 := blk_put h.bw 0 (.int .i64 y) rfl
  have hne := blk_ne h.bg h.bw (by decide)
  exact ⟨blk_far (p := ⟨wb, 1, none⟩) (blk_far (p := ⟨wb, 0, none⟩) h.bg hne _) hne _, blk_put b1 1 _ rfl, (h.co.keptT h.bw h.hw (by decide) (by decide) (by decide) (grown_set _ _ _ _)).keptT b1 h.hw (by decide) (by decide) (by decide) (grown_set _ _ _ _), h.hg, h.hw⟩
end
/-- .. with one row turned, which is read from now on. -/
structure OX (w0 W : World) (gb wb : Nat) (C : Cfg) (A2 : Option Addr) (n2 c2 : Nat) (A3 : Option Addr) (n3 c3 : Nat) (A4 : Option Addr) (n4 c4 : Nat) (vp vf a b : Int) : Prop where
  bg : W.heap[gb]? = some (.cells #[.int .i64 vp, .int .i64 vf, .slice A2 n2 c2, .slice A3 n3 c3, .slice A4 n4 c4] 26 (0, 0))
  bw : W.heap[wb]? = some (.cells #[.int .i64 a, .int .i64 b] 30 (0, 0))
  cx : CX W C A2 c2 A3 c3 A4 c4
  bel : Below w0.heap.size w0 W
  e2 : C.ws.length = n2
  e3 : C.ks.length = n3
  e4 : C.ac.length = n4
  ep : C.p = vp
  ef : C.f = vf
theorem OX.far {w0 W W' : World} {gb wb : Nat} {C : Cfg} {A2 A3 A4 : Option Addr} {n2 n3 n4 c2 c3 c4 : Nat} {vp vf a b : Int} (h : OX w0 W gb wb C A2 n2 c2 A3 n3 c3 A4 n4 c4 vp vf a b) (hb : Below W.heap.size W W') : OX w0 W' gb wb C A2 n2 c2 A3 n3 c3 A4 n4 c4 vp vf a b := ⟨blk_below h.bg hb, blk_below h.bw hb, h.cx.below hb, below_step h.bel hb, h.e2, h.e3, h.e4, h.ep, h.ef⟩
section
variable {w0 W : World} {gb wb : Nat} {ws : List S33} {ks : List S35} {ac : List Int} {A2 A3 A4 : Option Addr} {c2 c3 c4 : Nat} {vp vf a b : Int}
theorem OV.ox (h : OV w0 W gb wb ws ks ac (.slice A2 ws.length c2) (.slice A3 ks.length c3) (.slice A4 ac.length c4) vp vf a b) : OX w0 W gb wb ⟨vp, vf, ws, ks, ac⟩ A2 ws.length c2 A3 ks.length c3 A4 ac.length c4 vp vf a b :=
  ⟨h.bg, h.bw, ⟨h.co.o2.ci.1, h.co.o2.ci.2.2, h.co.o3.ci.1, h.co.o3.ci.2.2, h.co.o4.ci.1, h.co.o4.ci.2.2⟩, h.bel, rfl, rfl, rfl, rfl, rfl⟩
theorem OV.put33 (h : OV w0 W gb wb ws ks ac (.slice A2 ws.length c2) (.slice A3 ks.length c3) (.slice A4 ac.length c4) vp vf a b) {g : Nat} {cur : Array Value} (hA : A2 = some ⟨g, 0, none⟩) (hge : w0.heap.size ≤ g) (hc : W.heap[g]? = some (.cells cur 33 (0, 0))) {k : Nat} (hk : k < ws.length) (z y x : Int) :
    OX w0 (((W.setCell ⟨g, k * 3 + 2, none⟩ (.int .i64 z)).setCell ⟨wb, 0, none⟩ (.int .i64 y)).setCell ⟨wb, 1, none⟩ (.int .i64 x)) gb wb ⟨vp, vf, ws.set k ⟨ws[k].f0, ws[k].f1, z⟩, ks, ac⟩ A2 ws.length c2 A3 ks.length c3 A4 ac.length c4 vp vf y x := by
  subst hA
  have b1 : (W.setCell ⟨g, k * 3 + 2, none⟩ (.int .i64 z)).heap[wb]? = some (.cells #[.int .i64 a, .int .i64 b] 30 (0, 0)) := blk_far (p := ⟨g, k * 3 + 2, none⟩) h.bw (blk_ne h.bw hc (by decide)) _
  have b2 := blk_put b1 0 (.int .i64 y) rfl
  have hne : gb ≠ wb := blk_ne h.bg h.bw (by decide)
  have c1 := Cf.put33 h.co.o2.ci.1 hc hk z
  have gc := blk_put hc (k * 3 + 2) (.int .i64 z) rfl
  have k3 := ((h.co.o3.kept35 hc hge (by decide) (grown_set W g (k * 3 + 2) (.int .i64 z))).kept35 b1 h.hw (by decide) (grown_set _ wb 0 (.int .i64 y))).kept35 b2 h.hw (by decide) (grown_set _ wb 1 (.int .i64 x))
  have k4 := ((h.co.o4.kept3 hc hge (by decide) (grown_set W g (k * 3 + 2) (.int .i64 z))).kept3 b1 h.hw (by decide) (grown_set _ wb 0 (.int .i64 y))).kept3 b2 h.hw (by decide) (grown_set _ wb 1 (.int .i64 x))
  have e1 : ws.length = (ws.set k ⟨ws[k].f0, ws[k].f1, z⟩).length := by rw [List.length_set]
  refine ⟨?_, blk_put b2 1 _ rfl, ⟨?_, ?_, k3.ci.1, k3.ci.2.2, k4.ci.1, k4.ci.2.2⟩, k3.bel, Eq.symm e1, rfl, rfl, rfl, rfl⟩
  · exact blk_far (p := ⟨wb, 1, none⟩) (blk_far (p := ⟨wb, 0, none⟩) (blk_far (p := ⟨g, k * 3 + 2, none⟩) h.bg (blk_ne h.bg hc (by decide)) _) hne _) hne _
  · show Kd.C k33 _ _ (ws.set k ⟨ws[k].f0, ws[k].f1, z⟩).length _
    rw [← e1]
    have hw1 : wb ≠ g := blk_ne h.bw hc (by decide)
    exact C_far hw1 (C_far hw1 c1 (fun _ _ hK => by rw [k33_open hK]; exact k33_mk _ _)) (fun _ _ hK => by rw [k33_open hK]; exact k33_mk _ _)
  · show (ws.set k ⟨ws[k].f0, ws[k].f1, z⟩).length ≤ c2
    rw [← e1]
    exact h.co.o2.ci.2.2
theorem OV.put35 (h : OV w0 W gb wb ws ks ac (.slice A2 ws.length c2) (.slice A3 ks.length c3) (.slice A4 ac.length c4) vp vf a b) {g : Nat} {cur : Array Value} (hA : A3 = some ⟨g, 0, none⟩) (hge : w0.heap.size ≤ g) (hc : W.heap[g]? = some (.cells cur 35 (0, 0))) {k : Nat} (hk : k < ks.length) (z y x : Int) :
    OX w0 (((W.setCell ⟨g, k * 11 + 2, none⟩ (.int .i64 z)).setCell ⟨wb, 0, none⟩ (.int .i64 y)).setCell ⟨wb, 1, none⟩ (.int .i64 x)) gb wb ⟨vp, vf, ws, ks.set k ⟨ks[k].f0, ks[k].f1, z, ks[k].f3, ks[k].f4, ks[k].f5, ks[k].f6, ks[k].f7, ks[k].f8, ks[k].f9, ks[k].f10⟩, ac⟩ A2 ws.length c2 A3 ks.length c3 A4 ac.length c4 vp vf y x := by
  subst hA
  have b1 : (W.setCell ⟨g, k * 11 + 2, none⟩ (.int .i64 z)).heap[wb]? = some (.cells #[.int .i64 a, .int .i64 b] 30 (0, 0)) := blk_far (p := ⟨g, k * 11 + 2, none⟩) h.bw (blk_ne h.bw hc (by decide)) _
  have b2 := blk_put b1 0 (.int .i64 y) rfl
  have hne : gb ≠ wb := blk_ne h.bg h.bw (by decide)
  have c1 := Cf.put35 h.co.o3.ci.1 hc hk z
  have gc := blk_put hc (k * 11 + 2) (.int .i64 z) rfl
  have k3 := ((h.co.o2.kept33 hc hge (by decide) (grown_set W g (k * 11 + 2) (.int .i64 z))).kept33 b1 h.hw (by decide) (grown_set _ wb 0 (.int .i64 y))).kept33 b2 h.hw (by decide) (grown_set _ wb 1 (.int .i64 x))
  have k4 := ((h.co.o4.kept3 hc hge (by decide) (grown_set W g (k * 11 + 2) (.int .i64 z))).kept3 b1 h.hw (by decide) (grown_set _ wb 0 (.int .i64 y))).kept3 b2 h.hw (by decide) (grown_set _ wb 1 (.int .i64 x))
  have e1 : ks.length = (ks.set k ⟨ks[k].f0, ks[k].f1, z, ks[k].f3, ks[k].f4, ks[k].f5, ks[k].f6, ks[k].f7, ks[k].f8, ks[k].f9, ks[k].f10⟩).length := by rw [List.length_set]
  refine ⟨?_, blk_put b2 1 _ rfl, ⟨k3.ci.1, k3.ci.2.2, ?_, ?_, k4.ci.1, k4.ci.2.2⟩, k3.bel, rfl, Eq.symm e1, rfl, rfl, rfl⟩
  · exact blk_far (p := ⟨wb, 1, none⟩) (blk_far (p := ⟨wb, 0, none⟩) (blk_far (p := ⟨g, k * 11 + 2, none⟩) h.bg (blk_ne h.bg hc (by decide)) _) hne _) hne _
  · show Kd.C k35 _ _ (ks.set k _).length _
    rw [← e1]
    have hw1 : wb ≠ g := blk_ne h.bw hc (by decide)
    exact C_far hw1 (C_far hw1 c1 (fun _ _ hK => by rw [k35_open hK]; exact k35_mk _ _)) (fun _ _ hK => by rw [k35_open hK]; exact k35_mk _ _)
  · show (ks.set k _).length ≤ c3
    rw [← e1]
    exact h.co.o3.ci.2.2
theorem OV.put3 (h : OV w0 W gb wb ws ks ac (.slice A2 ws.length c2) (.slice A3 ks.length c3) (.slice A4 ac.length c4) vp vf a b) {g : Nat} {cur : Array Value} (hA : A4 = some ⟨g, 0, none⟩) (hge : w0.heap.size ≤ g) (hc : W.heap[g]? = some (.cells cur 3 (0, 0))) {k : Nat} (hk : k < ac.length) (z y x : Int) :
    OX w0 (((W.setCell ⟨g, k, none⟩ (.int .i64 z)).setCell ⟨wb, 0, none⟩ (.int .i64 y)).setCell ⟨wb, 1, none⟩ (.int .i64 x)) gb wb ⟨vp, vf, ws, ks, ac.set k z⟩ A2 ws.length c2 A3 ks.length c3 A4 ac.length c4 vp vf y x := by
  subst hA
  have b1 : (W.setCell ⟨g, k, none⟩ (.int .i64 z)).heap[wb]? = some (.cells #[.int .i64 a, .int .i64 b] 30 (0, 0)) := blk_far (p := ⟨g, k, none⟩) h.bw (blk_ne h.bw hc (by decide)) _
  have b2 := blk_put b1 0 (.int .i64 y) rfl
  have hne : gb ≠ wb := blk_ne h.bg h.bw (by decide)
  have c1 := Cf.put3 h.co.o4.ci.1 hc hk z
  have gc := blk_put hc k (.int .i64 z) rfl
  have k3 := ((h.co.o2.kept33 hc hge (by decide) (grown_set W g k (.int .i64 z))).kept33 b1 h.hw (by decide) (grown_set _ wb 0 (.int .i64 y))).kept33 b2 h.hw (by decide) (grown_set _ wb 1 (.int .i64 x))
  have k4 := ((h.co.o3.kept35 hc hge (by decide) (grown_set W g k (.int .i64 z))).kept35 b1 h.hw (by decide) (grown_set _ wb 0 (.int .i64 y))).kept35 b2 h.hw (by decide) (grown_set _ wb 1 (.int .i64 x))
  have e1 : ac.length = (ac.set k z).length := by rw [List.length_set]
  refine ⟨?_, blk_put b2 1 _ rfl, ⟨k3.ci.1, k3.ci.2.2, k4.ci.1, k4.ci.2.2, ?_, ?_⟩, k3.bel, rfl, rfl, Eq.symm e1, rfl, rfl⟩
  · exact blk_far (p := ⟨wb, 1, none⟩) (blk_far (p := ⟨wb, 0, none⟩) (blk_far (p := ⟨g, k, none⟩) h.bg (blk_ne h.bg hc (by decide)) _) hne _) hne _
  · show Kd.C (Kd.int .i64) _ _ (ac.set k z).length _
    rw [← e1]
    have hw1 : wb ≠ g := blk_ne h.bw hc (by decide)
    exact C_far hw1 (C_far hw1 c1 (fun _ _ hK => hK)) (fun _ _ hK => hK)
  · show (ac.set k z).length ≤ c4
    rw [← e1]
    exact h.co.o4.ci.2.2
end
theorem OX.chk_ {w0 W : World} {gb wb : Nat} {C : Cfg} {A2 A3 A4 : Option Addr} {n2 n3 n4 c2 c3 c4 : Nat} {vp vf a b : Int} (h : OX w0 W gb wb C A2 n2 c2 A3 n3 c3 A4 n4 c4 vp vf a b) (hg : LG w0) (h2 : n2 ≤ 1000) (h3 : n3 ≤ 1000) (h4 : n4 ≤ 1000) (hc : chk C = ⟨a, b, 4⟩) :
    Calls Tryd.prog 12 #[.agg #[.int .i64 vp, .int .i64 vf, .slice A2 n2 c2, .slice A3 n3 c3, .slice A4 n4 c4]] W fun e w' => e = .returned (.tuple #[.agg #[.int .i64 a, .int .i64 b], .int .i64 4]) ∧ OX w0 w' gb wb C A2 n2 c2 A3 n3 c3 A4 n4 c4 vp vf a b := by
  have := check_any h.cx (hg.below h.bel) (by rw [h.e3]; exact h3) (by rw [h.e4]; exact h4) (by rw [h.e2]; exact h2)
  rw [hc, h.e2, h.e3, h.e4, h.ep, h.ef] at this
  exact this.mono fun e w' hh => ⟨hh.1, h.far hh.2⟩
end Go.Proofs.YtehcgojcmcahnaaDoor.Cf

/- ConfigOne: the walk. -/
set_option linter.unusedVariables false
set_option linter.unusedSimpArgs false
namespace Go.Proofs.YtehcgojcmcahnaaDoor.Cf
open Go.RowKit Go.Proofs.YtehcgojcmcahnaaDoorW.PrintWords Go.Proofs.YtehcgojcmcahnaaDoorW.PrintLast Go.Proofs.YtehcgojcmcahnaaDoorW.PrintMore Go.Proofs.YtehcgojcmcahnaaDoor.Cz Go.Proofs.YtehcgojcmcahnaaDoor.PConfigSame
attribute [local go_sem] max2_int min2_int max_two min_two max_three min_three max_four min_four Tryd.underlying26 Tryd.underlying33 Tryd.underlying35 Tryd.underlying30
set_option maxHeartbeats 16000000 in
set_option maxRecDepth 100000 in
theorem configOne_any (what at_ : Int) {C : Cfg} {A2 A3 A4 : Option Addr} {Ac2 Ac3 Ac4 : Nat} {w : World} (h : CX w C A2 Ac2 A3 Ac3 A4 Ac4)
    (l2 : C.ws.length ≤ maxLen) (l3 : C.ks.length ≤ maxLen) (l4 : C.ac.length ≤ maxLen) (hg : LG w) :
    Calls Tryd.prog 3 #[.agg #[.int .i64 C.p, .int .i64 C.f, .slice A2 C.ws.length Ac2, .slice A3 C.ks.length Ac3, .slice A4 C.ac.length Ac4], .int .i64 what, .int .i64 at_] w fun e w' => e = .returned (.bool true) ∧ Below w.heap.size w w' := by
  have FA := fun w1 (hb : Below w.heap.size w w1) => few_any (h.below hb) l2 l3 l4
  obtain ⟨G, hG, GA⟩ := good_any h.few
  replace FA := Aside0.mk FA
  replace GA := Aside0.mk GA
  have HG := Aside0.mk hg
  have HGG := Aside0.mk hG
  have q2 := hG.w
  have q3 := hG.k
  have q4 : 1 ≤ G.ac.length ∧ G.ac.length ≤ 4 := by
    have := hG.a
    have := hG.p
    omega
  clear h l2 l3 l4 hg hG
  have B1 := Aside0.mk (And.intro (blk_new w (.cells #[.int .i64 C.p, .int .i64 C.f, .slice A2 C.ws.length Ac2, .slice A3 C.ks.length Ac3, .slice A4 C.ac.length Ac4] 26)) (below_alloc (Below.refl w.heap.size w) (.cells #[.int .i64 C.p, .int .i64 C.f, .slice A2 C.ws.length Ac2, .slice A3 C.ks.length Ac3, .slice A4 C.ac.length Ac4] 26)))
  go_enter Tryd.func3, Tryd.ntmps3
  go_upto_region 3 with (first | (go_at_call 8; refine (lives_any (HG.out.below B1.out.2)).mono ?_; rintro e w2 ⟨rfl, hb⟩; have B2_ := Aside0.mk (And.intro (blk_below B1.out.1 hb) (below_step B1.out.2 hb)); clear hb))
  have s0 := B2_.out.1
  have s00 := (blk_cell s0 0).trans (show _ = some (.int .i64 C.p) from rfl)
  have s01 := (blk_cell s0 1).trans (show _ = some (.int .i64 C.f) from rfl)
  have s02 := (blk_cell s0 2).trans (show _ = some (.slice A2 C.ws.length Ac2) from rfl)
  have s03 := (blk_cell s0 3).trans (show _ = some (.slice A3 C.ks.length Ac3) from rfl)
  have s04 := (blk_cell s0 4).trans (show _ = some (.slice A4 C.ac.length Ac4) from rfl)
  clear s0 B1
  go_upto_region 4 with (first | (go_at_call 11; refine (FA.out _ B2_.out.2).mono ?_; rintro e w3 ⟨rfl, hb⟩; have B3 := Aside0.mk (below_step B2_.out.2 hb); clear hb) | (go_at_call 10; refine (GA.out _ B3.out).mono ?_; rintro e w4 ⟨X2, Xc2, X3, Xc3, X4, Xc4, rfl, hx, hb⟩; have HX := Aside0.mk hx; have B4 := Aside0.mk (below_step B3.out hb); clear hb hx) | (go_at_call 9; refine (clone_any HX.out (by omega) (by omega) (by omega)).mono ?_; rintro e w5 ⟨Y2, Yc2, Y3, Yc3, Y4, Yc4, rfl, hy⟩; have HY := Aside0.mk hy; clear hy))
  go_upto_region 5 with (first | fail)
  have V : OV w ((w5.alloc (.cells #[.int .i64 G.p, .int .i64 G.f, .slice Y2 G.ws.length Yc2, .slice Y3 G.ks.length Yc3, .slice Y4 G.ac.length Yc4] 26)).alloc (.cells #[.int .i64 0, .int .i64 0] 30)) w5.heap.size (w5.heap.size + 1) G.ws G.ks G.ac (.slice Y2 G.ws.length Yc2) (.slice Y3 G.ks.length Yc3) (.slice Y4 G.ac.length Yc4) G.p G.f 0 0 := by
    have hsz := Nat.le_trans B4.out.size HY.out.o2.bel.size
    have hb2 := below_alloc (below_alloc (Below.refl w5.heap.size w5) (.cells #[.int .i64 G.p, .int .i64 G.f, .slice Y2 G.ws.length Yc2, .slice Y3 G.ks.length Yc3, .slice Y4 G.ac.length Yc4] 26)) (.cells #[.int .i64 0, .int .i64 0] 30)
    refine ⟨blk_alloc (blk_new _ _) _, by simpa using heap_alloc_new (w5.alloc (.cells #[.int .i64 G.p, .int .i64 G.f, .slice Y2 G.ws.length Yc2, .slice Y3 G.ks.length Yc3, .slice Y4 G.ac.length Yc4] 26)) (.cells #[.int .i64 0, .int .i64 0] 30), ?_, hsz, Nat.le_succ_of_le hsz⟩
    have hc := HY.out.far hb2
    exact ⟨hc.o2.less B4.out, hc.o3.less B4.out, hc.o4.less B4.out⟩
  clear HX HY B2_ B3 B4 FA GA s00 s01 s02 s03 s04
  revert V
  generalize ((w5.alloc (.cells #[.int .i64 G.p, .int .i64 G.f, .slice Y2 G.ws.length Yc2, .slice Y3 G.ks.length Yc3, .slice Y4 G.ac.length Yc4] 26)).alloc (.cells #[.int .i64 0, .int .i64 0] 30)) = W6
  generalize w5.heap.size + 1 = wb
  generalize w5.heap.size = gb
  intro V
  go_upto_region 6 with (first | fail)
  have ht0 : 0 ≤ (IntKind.u64.wrap what).tmod 5 := Int.tmod_nonneg _ (by simp [IntKind.wrap, IntKind.bits, IntKind.signed]; omega)
  have ht1 : (IntKind.u64.wrap what).tmod 5 < 5 := Int.tmod_lt_of_pos _ (by omega)
  generalize (IntKind.u64.wrap what).tmod 5 = t at ht0 ht1
  have hgw : gb ≠ wb := blk_ne V.bg V.bw (by decide)
  have v0 := (blk_cell V.bg 0).trans (show _ = some (.int .i64 G.p) from rfl)
  have v1 := (blk_cell V.bg 1).trans (show _ = some (.int .i64 G.f) from rfl)
  have v2 := (blk_cell V.bg 2).trans (show _ = some (.slice Y2 G.ws.length Yc2) from rfl)
  have v3 := (blk_cell V.bg 3).trans (show _ = some (.slice Y3 G.ks.length Yc3) from rfl)
  have v4 := (blk_cell V.bg 4).trans (show _ = some (.slice Y4 G.ac.length Yc4) from rfl)
  have u0 := (blk_cell V.bw 0).trans (show _ = some (.int .i64 0) from rfl)
  have u1 := (blk_cell V.bw 1).trans (show _ = some (.int .i64 0) from rfl)
  have f0 := blk_frozen V.bg 0
  have f1 := blk_frozen V.bg 1
  have h0 := blk_frozen V.bw 0
  have h1 := blk_frozen V.bw 1
  replace V := Aside0.mk V
  obtain rfl | rfl | rfl | rfl | rfl : t = 0 ∨ t = 1 ∨ t = 2 ∨ t = 3 ∨ t = 4 := by omega
  · go_upto_region 30 with (first | fail)
    clear v0 v1 v2 v3 v4 u0 u1 f0 f1 h0 h1
    have XX := Aside0.mk (((V.out.putp 5).putw 1 0).ox)
    revert XX
    generalize hWW : ((W6.setCell ⟨gb, 0, none⟩ (.int .i64 5)).setCell ⟨wb, 0, none⟩ (.int .i64 1)).setCell ⟨wb, 1, none⟩ (.int .i64 0) = W7
    clear hWW
    intro XX
    have HCH := Aside0.mk (XX.out.chk_ HG.out (by omega) (by omega) (by omega) (one_p HGG.out))
    have x0 := (blk_cell XX.out.bg 0).trans (show _ = some (.int .i64 5) from rfl)
    have x1 := (blk_cell XX.out.bg 1).trans (show _ = some (.int .i64 G.f) from rfl)
    have x2 := (blk_cell XX.out.bg 2).trans (show _ = some (.slice Y2 G.ws.length Yc2) from rfl)
    have x3 := (blk_cell XX.out.bg 3).trans (show _ = some (.slice Y3 G.ks.length Yc3) from rfl)
    have x4 := (blk_cell XX.out.bg 4).trans (show _ = some (.slice Y4 G.ac.length Yc4) from rfl)
    go_upto_region 31 with (first | (go_at_call 12; refine HCH.out.mono ?_; rintro e w8 ⟨rfl, hx⟩; have X8 := Aside0.mk hx; clear hx))
    have n0 := (blk_cell (blk_new w8 (.cells #[.int .i64 1, .int .i64 0] 30)) 0).trans (show _ = some (.int .i64 1) from rfl)
    have n1 := (blk_cell (blk_new w8 (.cells #[.int .i64 1, .int .i64 0] 30)) 1).trans (show _ = some (.int .i64 0) from rfl)
    have m0 := (blk_cell (blk_alloc X8.out.bw (.cells #[.int .i64 1, .int .i64 0] 30)) 0).trans (show _ = some (.int .i64 1) from rfl)
    have m1 := (blk_cell (blk_alloc X8.out.bw (.cells #[.int .i64 1, .int .i64 0] 30)) 1).trans (show _ = some (.int .i64 0) from rfl)
    have HBL := Aside0.mk (below_alloc X8.out.bel (.cells #[.int .i64 1, .int .i64 0] 30))
    go_wp2
    go_ret
    exact ⟨by first | rfl | simp, HBL.out⟩
  · go_upto_region 30 with (first | fail)
    clear v0 v1 v2 v3 v4 u0 u1 f0 f1 h0 h1
    have XX := Aside0.mk (((V.out.putf 0).putw 2 0).ox)
    revert XX
    generalize hWW : ((W6.setCell ⟨gb, 1, none⟩ (.int .i64 0)).setCell ⟨wb, 0, none⟩ (.int .i64 2)).setCell ⟨wb, 1, none⟩ (.int .i64 0) = W7
    clear hWW
    intro XX
    have HCH := Aside0.mk (XX.out.chk_ HG.out (by omega) (by omega) (by omega) (one_f HGG.out))
    have x0 := (blk_cell XX.out.bg 0).trans (show _ = some (.int .i64 G.p) from rfl)
    have x1 := (blk_cell XX.out.bg 1).trans (show _ = some (.int .i64 0) from rfl)
    have x2 := (blk_cell XX.out.bg 2).trans (show _ = some (.slice Y2 G.ws.length Yc2) from rfl)
    have x3 := (blk_cell XX.out.bg 3).trans (show _ = some (.slice Y3 G.ks.length Yc3) from rfl)
    have x4 := (blk_cell XX.out.bg 4).trans (show _ = some (.slice Y4 G.ac.length Yc4) from rfl)
    go_upto_region 31 with (first | (go_at_call 12; refine HCH.out.mono ?_; rintro e w8 ⟨rfl, hx⟩; have X8 := Aside0.mk hx; clear hx))
    have n0 := (blk_cell (blk_new w8 (.cells #[.int .i64 2, .int .i64 0] 30)) 0).trans (show _ = some (.int .i64 2) from rfl)
    have n1 := (blk_cell (blk_new w8 (.cells #[.int .i64 2, .int .i64 0] 30)) 1).trans (show _ = some (.int .i64 0) from rfl)
    have m0 := (blk_cell (blk_alloc X8.out.bw (.cells #[.int .i64 2, .int .i64 0] 30)) 0).trans (show _ = some (.int .i64 2) from rfl)
    have m1 := (blk_cell (blk_alloc X8.out.bw (.cells #[.int .i64 2, .int .i64 0] 30)) 1).trans (show _ = some (.int .i64 0) from rfl)
    have HBL := Aside0.mk (below_alloc X8.out.bel (.cells #[.int .i64 2, .int .i64 0] 30))
    go_wp2
    go_ret
    exact ⟨by first | rfl | simp, HBL.out⟩
  · have hz : decide ((G.ws.length : Int) = 0) = false := decide_eq_false (by omega)
    have hzn : decide (G.ws.length = 0) = false := decide_eq_false (by omega)
    have hnn : IntKind.u64.wrap (G.ws.length : Int) = (G.ws.length : Int) := by simp [IntKind.wrap, IntKind.bits, IntKind.signed]; omega
    have hnz : (IntKind.u64.wrap (G.ws.length : Int)) ≠ 0 := by rw [hnn]; omega
    obtain ⟨k, hk, hkl⟩ : ∃ k : Nat, wrap64 ((IntKind.u64.wrap at_).tmod (G.ws.length : Int)) = (k : Int) ∧ k < G.ws.length := by
      have r0 : 0 ≤ (IntKind.u64.wrap at_).tmod (G.ws.length : Int) := Int.tmod_nonneg _ (by simp [IntKind.wrap, IntKind.bits, IntKind.signed]; omega)
      have r1 : (IntKind.u64.wrap at_).tmod (G.ws.length : Int) < G.ws.length := Int.tmod_lt_of_pos _ (by omega)
      refine ⟨((IntKind.u64.wrap at_).tmod (G.ws.length : Int)).toNat, ?_, by omega⟩
      unfold wrap64
      omega
    go_upto_region 16 with (first | fail)
    rw [hk]
    obtain ⟨g, cur, rfl, hge, hcur⟩ := ok_blk V.out.co.o2 (by omega)
    have hk0 : 0 ≤ (k : Int) := by omega
    have hk1 : (k : Int) < G.ws.length := by omega
    obtain ⟨g', z, e', _, hcell, hfr, _⟩ := YB.at_ (yb33 V.out.co.o2) (j := k * 3 + 2) (by omega)
    cases e'
    have hgw2 : g ≠ wb := blk_ne hcur V.out.bw (by decide)
    have hgw3 : wb ≠ g := Ne.symm hgw2
    clear hz hzn hnn hnz hk
    go_upto_region 30 with (first | fail)
    clear v0 v1 v2 v3 v4 u0 u1 f0 f1 h0 h1 hk0 hk1 hcell hfr
    have XX := Aside0.mk (V.out.put33 rfl hge hcur hkl (0) 3 k)
    revert XX
    generalize hWW : ((W6.setCell ⟨g, k * 3 + 2, none⟩ (.int .i64 (0))).setCell ⟨wb, 0, none⟩ (.int .i64 3)).setCell ⟨wb, 1, none⟩ (.int .i64 k) = W7
    clear hWW
    intro XX
    have HCH := Aside0.mk (XX.out.chk_ HG.out (by omega) (by omega) (by omega) (one_w HGG.out hkl _ rfl))
    have x0 := (blk_cell XX.out.bg 0).trans (show _ = some (.int .i64 G.p) from rfl)
    have x1 := (blk_cell XX.out.bg 1).trans (show _ = some (.int .i64 G.f) from rfl)
    have x2 := (blk_cell XX.out.bg 2).trans (show _ = some (.slice (some ⟨g, 0, none⟩) G.ws.length Yc2) from rfl)
    have x3 := (blk_cell XX.out.bg 3).trans (show _ = some (.slice Y3 G.ks.length Yc3) from rfl)
    have x4 := (blk_cell XX.out.bg 4).trans (show _ = some (.slice Y4 G.ac.length Yc4) from rfl)
    go_upto_region 31 with (first | (go_at_call 12; refine HCH.out.mono ?_; rintro e w8 ⟨rfl, hx⟩; have X8 := Aside0.mk hx; clear hx))
    have n0 := (blk_cell (blk_new w8 (.cells #[.int .i64 3, .int .i64 k] 30)) 0).trans (show _ = some (.int .i64 3) from rfl)
    have n1 := (blk_cell (blk_new w8 (.cells #[.int .i64 3, .int .i64 k] 30)) 1).trans (show _ = some (.int .i64 k) from rfl)
    have m0 := (blk_cell (blk_alloc X8.out.bw (.cells #[.int .i64 3, .int .i64 k] 30)) 0).trans (show _ = some (.int .i64 3) from rfl)
    have m1 := (blk_cell (blk_alloc X8.out.bw (.cells #[.int .i64 3, .int .i64 k] 30)) 1).trans (show _ = some (.int .i64 k) from rfl)
    have HBL := Aside0.mk (below_alloc X8.out.bel (.cells #[.int .i64 3, .int .i64 k] 30))
    go_wp2
    go_ret
    exact ⟨by first | rfl | simp, HBL.out⟩
  · by_cases hz0 : G.ks.length = 0
    · have hz : decide ((G.ks.length : Int) = 0) = true := decide_eq_true (by omega)
      have hzn : decide (G.ks.length = 0) = true := decide_eq_true hz0
      go_wp2
      go_ret
      exact ⟨rfl, V.out.bel⟩

    · have hz : decide ((G.ks.length : Int) = 0) = false := decide_eq_false (by omega)
      have hzn : decide (G.ks.length = 0) = false := decide_eq_false (by omega)
      have hnn : IntKind.u64.wrap (G.ks.length : Int) = (G.ks.length : Int) := by simp [IntKind.wrap, IntKind.bits, IntKind.signed]; omega
      have hnz : (IntKind.u64.wrap (G.ks.length : Int)) ≠ 0 := by rw [hnn]; omega
      obtain ⟨k, hk, hkl⟩ : ∃ k : Nat, wrap64 ((IntKind.u64.wrap at_).tmod (G.ks.length : Int)) = (k : Int) ∧ k < G.ks.length := by
        have r0 : 0 ≤ (IntKind.u64.wrap at_).tmod (G.ks.length : Int) := Int.tmod_nonneg _ (by simp [IntKind.wrap, IntKind.bits, IntKind.signed]; omega)
        have r1 : (IntKind.u64.wrap at_).tmod (G.ks.length : Int) < G.ks.length := Int.tmod_lt_of_pos _ (by omega)
        refine ⟨((IntKind.u64.wrap at_).tmod (G.ks.length : Int)).toNat, ?_, by omega⟩
        unfold wrap64
        omega
      go_upto_region 22 with (first | fail)
      rw [hk]
      obtain ⟨g, cur, rfl, hge, hcur⟩ := ok_blk V.out.co.o3 (by omega)
      have hk0 : 0 ≤ (k : Int) := by omega
      have hk1 : (k : Int) < G.ks.length := by omega
      obtain ⟨g', z, e', _, hcell, hfr, _⟩ := YB.at_ (yb35 V.out.co.o3) (j := k * 11 + 2) (by omega)
      cases e'
      have hgw2 : g ≠ wb := blk_ne hcur V.out.bw (by decide)
      have hgw3 : wb ≠ g := Ne.symm hgw2
      clear hz hzn hnn hnz hk
      have hcs := at_T35 V.out.co.o3.ci.1 (k : Int) (by omega) (by omega)
      rw [show rd_T35 G.ks (k : Int) = G.ks[k] by simp [rd_T35, hkl], Int.toNat_natCast] at hcs
      obtain ⟨ad, ea, e0, e1, e2, _⟩ := hcs
      cases ea
      rw [add0] at e1 e2
      clear e0 hcell
      have e1' : W6.cell? ⟨g, k * 11 + 1, none⟩ = some (.int .i64 G.ks[k].f1) := e1
      have e2' : W6.cell? ⟨g, k * 11 + 2, none⟩ = some (.int .i64 G.ks[k].f2) := e2
      clear e1 e2
      go_still_tail 11, (by kernel_rfl)
      repeat still_step
      try refine wpStill_nil ?_
      change wpList _ _ _ _ _ W6.drew
      have VD := OV.far V.out (below_drew (Below.refl W6.heap.size W6))
      have hcD := blk_drew hcur
      have e1D : W6.drew.cell? ⟨g, k * 11 + 1, none⟩ = some (.int .i64 G.ks[k].f1) := e1'
      have e2D : W6.drew.cell? ⟨g, k * 11 + 2, none⟩ = some (.int .i64 G.ks[k].f2) := e2'
      clear V hcur e1' e2' hfr v0 v1 v2 v3 v4 u0 u1 f0 f1 h0 h1
      revert VD hcD e1D e2D
      generalize W6.drew = W6D
      intro VD hcur e1' e2'
      have hfr := blk_frozen hcur (k * 11 + 2)
      have h0 := blk_frozen VD.bw 0
      have h1 := blk_frozen VD.bw 1
      have u0 := (blk_cell VD.bw 0).trans (show _ = some (.int .i64 0) from rfl)
      have u1 := (blk_cell VD.bw 1).trans (show _ = some (.int .i64 0) from rfl)
      replace VD := Aside0.mk VD
      go_upto_region 30 with (first | fail)
      clear u0 u1 h0 h1 hk0 hk1 hfr e1' e2'
      have XX := Aside0.mk (VD.out.put35 rfl hge hcur hkl G.ks[k].f1 4 k)
      revert XX
      generalize hWW : ((W6D.setCell ⟨g, k * 11 + 2, none⟩ (.int .i64 G.ks[k].f1)).setCell ⟨wb, 0, none⟩ (.int .i64 4)).setCell ⟨wb, 1, none⟩ (.int .i64 k) = W7
      clear hWW
      intro XX
      have HCH := Aside0.mk (XX.out.chk_ HG.out (by omega) (by omega) (by omega) (one_k HGG.out hkl _ rfl))
      have x0 := (blk_cell XX.out.bg 0).trans (show _ = some (.int .i64 G.p) from rfl)
      have x1 := (blk_cell XX.out.bg 1).trans (show _ = some (.int .i64 G.f) from rfl)
      have x2 := (blk_cell XX.out.bg 2).trans (show _ = some (.slice Y2 G.ws.length Yc2) from rfl)
      have x3 := (blk_cell XX.out.bg 3).trans (show _ = some (.slice (some ⟨g, 0, none⟩) G.ks.length Yc3) from rfl)
      have x4 := (blk_cell XX.out.bg 4).trans (show _ = some (.slice Y4 G.ac.length Yc4) from rfl)
      go_upto_region 31 with (first | (go_at_call 12; refine HCH.out.mono ?_; rintro e w8 ⟨rfl, hx⟩; have X8 := Aside0.mk hx; clear hx))
      have n0 := (blk_cell (blk_new w8 (.cells #[.int .i64 4, .int .i64 k] 30)) 0).trans (show _ = some (.int .i64 4) from rfl)
      have n1 := (blk_cell (blk_new w8 (.cells #[.int .i64 4, .int .i64 k] 30)) 1).trans (show _ = some (.int .i64 k) from rfl)
      have m0 := (blk_cell (blk_alloc X8.out.bw (.cells #[.int .i64 4, .int .i64 k] 30)) 0).trans (show _ = some (.int .i64 4) from rfl)
      have m1 := (blk_cell (blk_alloc X8.out.bw (.cells #[.int .i64 4, .int .i64 k] 30)) 1).trans (show _ = some (.int .i64 k) from rfl)
      have HBL := Aside0.mk (below_alloc X8.out.bel (.cells #[.int .i64 4, .int .i64 k] 30))
      go_wp2
      go_ret
      exact ⟨by first | rfl | simp, HBL.out⟩
  · have hz : decide ((G.ac.length : Int) = 0) = false := decide_eq_false (by omega)
    have hzn : decide (G.ac.length = 0) = false := decide_eq_false (by omega)
    have hnn : IntKind.u64.wrap (G.ac.length : Int) = (G.ac.length : Int) := by simp [IntKind.wrap, IntKind.bits, IntKind.signed]; omega
    have hnz : (IntKind.u64.wrap (G.ac.length : Int)) ≠ 0 := by rw [hnn]; omega
    obtain ⟨k, hk, hkl⟩ : ∃ k : Nat, wrap64 ((IntKind.u64.wrap at_).tmod (G.ac.length : Int)) = (k : Int) ∧ k < G.ac.length := by
      have r0 : 0 ≤ (IntKind.u64.wrap at_).tmod (G.ac.length : Int) := Int.tmod_nonneg _ (by simp [IntKind.wrap, IntKind.bits, IntKind.signed]; omega)
      have r1 : (IntKind.u64.wrap at_).tmod (G.ac.length : Int) < G.ac.length := Int.tmod_lt_of_pos _ (by omega)
      refine ⟨((IntKind.u64.wrap at_).tmod (G.ac.length : Int)).toNat, ?_, by omega⟩
      unfold wrap64
      omega
    go_upto_region 28 with (first | fail)
    rw [hk]
    obtain ⟨g, cur, rfl, hge, hcur⟩ := ok_blk V.out.co.o4 (by omega)
    have hk0 : 0 ≤ (k : Int) := by omega
    have hk1 : (k : Int) < G.ac.length := by omega
    obtain ⟨g', z, e', _, hcell, hfr, _⟩ := YB.at_ (yb3 V.out.co.o4) (j := k) (by omega)
    cases e'
    have hgw2 : g ≠ wb := blk_ne hcur V.out.bw (by decide)
    have hgw3 : wb ≠ g := Ne.symm hgw2
    clear hz hzn hnn hnz hk
    go_upto_region 30 with (first | fail)
    clear v0 v1 v2 v3 v4 u0 u1 f0 f1 h0 h1 hk0 hk1 hcell hfr
    have XX := Aside0.mk (V.out.put3 rfl hge hcur hkl (-1) 5 k)
    revert XX
    generalize hWW : ((W6.setCell ⟨g, k, none⟩ (.int .i64 (-1))).setCell ⟨wb, 0, none⟩ (.int .i64 5)).setCell ⟨wb, 1, none⟩ (.int .i64 k) = W7
    clear hWW
    intro XX
    have HCH := Aside0.mk (XX.out.chk_ HG.out (by omega) (by omega) (by omega) (one_a HGG.out hkl))
    have x0 := (blk_cell XX.out.bg 0).trans (show _ = some (.int .i64 G.p) from rfl)
    have x1 := (blk_cell XX.out.bg 1).trans (show _ = some (.int .i64 G.f) from rfl)
    have x2 := (blk_cell XX.out.bg 2).trans (show _ = some (.slice Y2 G.ws.length Yc2) from rfl)
    have x3 := (blk_cell XX.out.bg 3).trans (show _ = some (.slice Y3 G.ks.length Yc3) from rfl)
    have x4 := (blk_cell XX.out.bg 4).trans (show _ = some (.slice (some ⟨g, 0, none⟩) G.ac.length Yc4) from rfl)
    go_upto_region 31 with (first | (go_at_call 12; refine HCH.out.mono ?_; rintro e w8 ⟨rfl, hx⟩; have X8 := Aside0.mk hx; clear hx))
    have n0 := (blk_cell (blk_new w8 (.cells #[.int .i64 5, .int .i64 k] 30)) 0).trans (show _ = some (.int .i64 5) from rfl)
    have n1 := (blk_cell (blk_new w8 (.cells #[.int .i64 5, .int .i64 k] 30)) 1).trans (show _ = some (.int .i64 k) from rfl)
    have m0 := (blk_cell (blk_alloc X8.out.bw (.cells #[.int .i64 5, .int .i64 k] 30)) 0).trans (show _ = some (.int .i64 5) from rfl)
    have m1 := (blk_cell (blk_alloc X8.out.bw (.cells #[.int .i64 5, .int .i64 k] 30)) 1).trans (show _ = some (.int .i64 k) from rfl)
    have HBL := Aside0.mk (below_alloc X8.out.bel (.cells #[.int .i64 5, .int .i64 k] 30))
    go_wp2
    go_ret
    exact ⟨by first | rfl | simp, HBL.out⟩
end Go.Proofs.YtehcgojcmcahnaaDoor.Cf
