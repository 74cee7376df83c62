/- Layer 4 (config): a clone's rows that are turned number by number. -/
import Derived.Test.YtehcgojcmcahnaaDoorCfV
set_option linter.unusedVariables false
set_option linter.unusedSimpArgs false
namespace Go.Proofs.YtehcgojcmcahnaaDoor.Cf
open Go.RowKit Go.Proofs.YtehcgojcmcahnaaDoorW.PrintWords Go.Proofs.YtehcgojcmcahnaaDoorW.PrintLast Go.Proofs.YtehcgojcmcahnaaDoorW.PrintMore Go.Proofs.YtehcgojcmcahnaaDoor.Cz Go.Proofs.YtehcgojcmcahnaaDoor.PConfigSame
theorem far5 {W : World} {g q : Nat} {o : Array Value} {T : TypeId} {v0 v1 v2 v3 v4 : Value} (h : W.heap[q]? = some (.cells o T (0, 0))) (hne : q ≠ g) :
    (((((W.setCell ⟨g, 0, none⟩ v0).setCell ⟨g, 1, none⟩ v1).setCell ⟨g, 2, none⟩ v2).setCell ⟨g, 3, none⟩ v3).setCell ⟨g, 4, none⟩ v4).heap[q]? = some (.cells o T (0, 0)) :=
  blk_far (p := ⟨g, 4, none⟩) (blk_far (p := ⟨g, 3, none⟩) (blk_far (p := ⟨g, 2, none⟩) (blk_far (p := ⟨g, 1, none⟩) (blk_far (p := ⟨g, 0, none⟩) h hne v0) hne v1) hne v2) hne v3) hne v4
theorem put5 {W : World} {g : Nat} {a0 a1 a2 a3 a4 v0 v1 v2 v3 v4 : Value} {T : TypeId} (h : W.heap[g]? = some (.cells #[a0, a1, a2, a3, a4] T (0, 0))) :
    (((((W.setCell ⟨g, 0, none⟩ v0).setCell ⟨g, 1, none⟩ v1).setCell ⟨g, 2, none⟩ v2).setCell ⟨g, 3, none⟩ v3).setCell ⟨g, 4, none⟩ v4).heap[g]? = some (.cells #[v0, v1, v2, v3, v4] T (0, 0)) :=
  blk_put (blk_put (blk_put (blk_put (blk_put h 0 v0 rfl) 1 v1 rfl) 2 v2 rfl) 3 v3 rfl) 4 v4 rfl
theorem bel5 {w W : World} {g : Nat} {v0 v1 v2 v3 v4 : Value} (h : Below w.heap.size w W) (hg : w.heap.size ≤ g) :
    Below w.heap.size w (((((W.setCell ⟨g, 0, none⟩ v0).setCell ⟨g, 1, none⟩ v1).setCell ⟨g, 2, none⟩ v2).setCell ⟨g, 3, none⟩ v3).setCell ⟨g, 4, none⟩ v4) :=
  below_set (below_set (below_set (below_set (below_set h hg) hg) hg) hg) hg
/-- m numbers in a block of one's own, of type T. -/
def YB (W0 W : World) (A : Option Addr) (m : Nat) (T : TypeId) : Prop :=
  m = 0 ∨ ∃ g, A = some ⟨g, 0, none⟩ ∧ W0.heap.size ≤ g ∧ ∃ cur : Array Value, W.heap[g]? = some (.cells cur T (0, 0)) ∧ ∀ j, j < m → ∃ z, cur[j]? = some (.int .i64 z)
theorem YB.at_ {W0 W : World} {A : Option Addr} {m T : Nat} (h : YB W0 W A m T) {j : Nat} (hj : j < m) : ∃ g z, A = some ⟨g, 0, none⟩ ∧ W0.heap.size ≤ g ∧ W.cell? ⟨g, j, none⟩ = some (.int .i64 z) ∧ W.frozen? ⟨g, j, none⟩ = false ∧ ∃ cur, W.heap[g]? = some (.cells cur T (0, 0)) := by
  rcases h with h | ⟨g, rfl, hg, cur, hc, hz⟩
  · omega
  · obtain ⟨z, hz⟩ := hz j hj
    exact ⟨g, z, rfl, hg, (blk_cell hc j).trans hz, blk_frozen hc j, cur, hc⟩
theorem YB.put {W0 W : World} {g m T : Nat} (h : YB W0 W (some ⟨g, 0, none⟩) m T) (j : Nat) (z : Int) : YB W0 (W.setCell ⟨g, j, none⟩ (.int .i64 z)) (some ⟨g, 0, none⟩) m T := by
  rcases h with h | ⟨g', e, hg, cur, hc, hz⟩
  · exact .inl h
  · cases e
    refine .inr ⟨g, rfl, hg, _, blk_put hc j _ rfl, fun i hi => ?_⟩
    obtain ⟨y, hy⟩ := hz i hi
    by_cases hij : j = i
    · subst hij
      have : j < cur.size := (Array.getElem?_eq_some_iff.1 hy).1
      exact ⟨z, by simp [this]⟩
    · exact ⟨y, by rw [Array.getElem?_setIfInBounds_ne hij]; exact hy⟩
theorem YB.far {W0 W : World} {A : Option Addr} {m T g' T' : Nat} {cs : Array Value} (h : YB W0 W A m T) (hb : W.heap[g']? = some (.cells cs T' (0, 0))) (hne : T ≠ T') (j : Nat) (v : Value) : YB W0 (W.setCell ⟨g', j, none⟩ v) A m T := by
  rcases h with h | ⟨g, rfl, hg, cur, hc, hz⟩
  · exact .inl h
  · exact .inr ⟨g, rfl, hg, cur, blk_far (p := ⟨g', j, none⟩) hc (blk_ne hc hb hne) _, hz⟩
theorem YB.below {W0 W W' : World} {A : Option Addr} {m T : Nat} (h : YB W0 W A m T) (hb : Below W.heap.size W W') : YB W0 W' A m T := by
  rcases h with h | ⟨g, rfl, hg, cur, hc, hz⟩
  · exact .inl h
  · exact .inr ⟨g, rfl, hg, cur, blk_below hc hb, hz⟩
theorem yb_of {α : Type} {d : Kd α} {T : TypeId} {w0 W : World} {A : Option Addr} {n c : Nat} {xs : List α} (h : OK d T w0 W (.slice A n c) xs) (hs : 0 < d.sz)
    (hk : ∀ x cs, d.K W x cs → ∀ i, i < d.sz → ∃ z, cs[i]? = some (.int .i64 z)) : YB w0 W A (xs.length * d.sz) T := by
  obtain ⟨hc, hn, hl⟩ := h.ci
  obtain ⟨inner, ho⟩ := Kd.R_own h.r
  obtain ⟨h1, h2⟩ := ho
  rcases h2 with ⟨e, h3⟩ | ⟨g, cap, cur, e, hg, hcur, _⟩
  · exact .inl (by injection e with e1 e2; subst e2; rw [← hn]; simp)
  · injection e with e1 e2 e3
    subst e1
    refine .inr ⟨g, rfl, hg, cur, hcur, fun j hj => ?_⟩
    have hq : j / d.sz < xs.length := Nat.div_lt_of_lt_mul (by rw [Nat.mul_comm]; exact hj)
    obtain ⟨_, _, h5⟩ := hc
    obtain ⟨ad, e5, h6⟩ := h5 (Nat.lt_of_le_of_lt (Nat.zero_le _) hq)
    cases e5
    obtain ⟨cs, _, hK, hcell⟩ := h6 (j / d.sz) xs[j / d.sz] (List.getElem?_eq_getElem hq)
    obtain ⟨z, hz⟩ := hk _ _ hK (j % d.sz) (Nat.mod_lt _ hs)
    have h7 := hcell _ _ hz
    have e7 : ((⟨g, 0, none⟩ : Addr).add (j / d.sz * d.sz + j % d.sz)) = ⟨g, j, none⟩ := by
      have : j / d.sz * d.sz + j % d.sz = j := by rw [Nat.mul_comm]; exact Nat.div_add_mod j d.sz
      rw [this]
      unfold Addr.add
      split <;> simp_all
    rw [e7, blk_cell hcur j] at h7
    exact ⟨z, h7⟩
theorem yb33 {w0 W : World} {A : Option Addr} {n c : Nat} {xs : List S33} (h : OK k33 33 w0 W (.slice A n c) xs) : YB w0 W A (xs.length * 3) 33 :=
  yb_of h (by decide) (fun x cs hK i hi => by
    rw [k33_open hK]
    have : i < 3 := hi
    rcases i with _ | _ | _ | i
    · exact ⟨_, rfl⟩
    · exact ⟨_, rfl⟩
    · exact ⟨_, rfl⟩
    · omega)
theorem yb35 {w0 W : World} {A : Option Addr} {n c : Nat} {xs : List S35} (h : OK k35 35 w0 W (.slice A n c) xs) : YB w0 W A (xs.length * 11) 35 :=
  yb_of h (by decide) (fun x cs hK i hi => by
    rw [k35_open hK]
    have : i < 11 := hi
    rcases i with _ | _ | _ | _ | _ | _ | _ | _ | _ | _ | _ | i
    all_goals first | exact ⟨_, rfl⟩ | omega)
theorem yb3 {w0 W : World} {A : Option Addr} {n c : Nat} {xs : List Int} (h : OK (Kd.int .i64) 3 w0 W (.slice A n c) xs) : YB w0 W A (xs.length * 1) 3 :=
  yb_of h (by decide) (fun x cs hK i hi => by
    have : cs = [.int .i64 x] := hK
    rw [this]
    have : i < 1 := hi
    rcases i with _ | i
    · exact ⟨_, rfl⟩
    · omega)
theorem CO.cx {w0 W : World} {C : Cfg} {B2 B3 B4 : Option Addr} {n2 n3 n4 d2 d3 d4 : Nat} (h : CO w0 W C.ws C.ks C.ac (.slice B2 n2 d2) (.slice B3 n3 d3) (.slice B4 n4 d4)) : CX W C B2 d2 B3 d3 B4 d4 :=
  ⟨h.o2.ci.1, h.o2.ci.2.2, h.o3.ci.1, h.o3.ci.2.2, h.o4.ci.1, h.o4.ci.2.2⟩
/-- Behind the second clone: what is turned, and what lies still. -/
structure YV (W0 W : World) (g6 : Nat) (cfg : Array Value) (A2 A3 A4 : Option Addr) (m2 m3 m4 : Nat) : Prop where
  bel : Below W0.heap.size W0 W
  b6 : W.heap[g6]? = some (.cells cfg 26 (0, 0))
  y2 : YB W0 W A2 m2 33
  y3 : YB W0 W A3 m3 35
  y4 : YB W0 W A4 m4 3
section
variable {W0 W : World} {g6 : Nat} {cfg : Array Value} {A2 A3 A4 : Option Addr} {m2 m3 m4 g : Nat} {cur : Array Value}
theorem YV.put2 (h : YV W0 W g6 cfg (some ⟨g, 0, none⟩) A3 A4 m2 m3 m4) (hc : W.heap[g]? = some (.cells cur 33 (0, 0))) (hg : W0.heap.size ≤ g) (j : Nat) (z : Int) : YV W0 (W.setCell ⟨g, j, none⟩ (.int .i64 z)) g6 cfg (some ⟨g, 0, none⟩) A3 A4 m2 m3 m4 :=
  ⟨below_set h.bel hg, blk_far (p := ⟨g, j, none⟩) h.b6 (blk_ne h.b6 hc (by decide)) _, h.y2.put j z, h.y3.far hc (by decide) j _, h.y4.far hc (by decide) j _⟩
theorem YV.put3 (h : YV W0 W g6 cfg A2 (some ⟨g, 0, none⟩) A4 m2 m3 m4) (hc : W.heap[g]? = some (.cells cur 35 (0, 0))) (hg : W0.heap.size ≤ g) (j : Nat) (z : Int) : YV W0 (W.setCell ⟨g, j, none⟩ (.int .i64 z)) g6 cfg A2 (some ⟨g, 0, none⟩) A4 m2 m3 m4 :=
  ⟨below_set h.bel hg, blk_far (p := ⟨g, j, none⟩) h.b6 (blk_ne h.b6 hc (by decide)) _, h.y2.far hc (by decide) j _, h.y3.put j z, h.y4.far hc (by decide) j _⟩
theorem YV.put4 (h : YV W0 W g6 cfg A2 A3 (some ⟨g, 0, none⟩) m2 m3 m4) (hc : W.heap[g]? = some (.cells cur 3 (0, 0))) (hg : W0.heap.size ≤ g) (j : Nat) (z : Int) : YV W0 (W.setCell ⟨g, j, none⟩ (.int .i64 z)) g6 cfg A2 A3 (some ⟨g, 0, none⟩) m2 m3 m4 :=
  ⟨below_set h.bel hg, blk_far (p := ⟨g, j, none⟩) h.b6 (blk_ne h.b6 hc (by decide)) _, h.y2.far hc (by decide) j _, h.y3.far hc (by decide) j _, h.y4.put j z⟩
end
end Go.Proofs.YtehcgojcmcahnaaDoor.Cf
