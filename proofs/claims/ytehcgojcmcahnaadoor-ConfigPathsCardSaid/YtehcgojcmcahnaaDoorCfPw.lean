/- Layer 4 (config): config.Path: a search over a map and a row of numbers. -/
import Derived.Test.YtehcgojcmcahnaaDoorCfPm
import Derived.Maps.Own
import Derived.Maps.Views
import Derived.BigQuiet
import Derived.WalkArith
set_option linter.unusedVariables false
set_option linter.unusedSimpArgs false
namespace Go.Proofs.YtehcgojcmcahnaaDoor.Cf
open Go.RowKit Go.Maps Go.Proofs.YtehcgojcmcahnaaDoorW.PrintWords Go.Proofs.YtehcgojcmcahnaaDoorW.PrintLast Go.Proofs.YtehcgojcmcahnaaDoorW.PrintMore Go.Proofs.YtehcgojcmcahnaaDoor.Cz Go.Proofs.YtehcgojcmcahnaaDoor.PConfigSame
theorem lawI : Keyed Tryd.prog 3 := int_keyed Tryd.underlying3
theorem zeroB (w : World) : (zeroValue 4).run Tryd.prog w = .ok (.bool false) w := by kernel_rfl
/-- Block b is a map of at most n entries that says S of each number. -/
def MB (W : World) (b n : Nat) (S : Int → Bool) : Prop := ∃ D : DataW Unit, W.ownsMap Tryd.prog 3 (plainElem Tryd.prog 4) b n D ∧ ∀ i, D.atKey (.int .i64 i) (.lit (.bool false)) = .lit (.bool (S i))
theorem MB.made (w : World) : MB (w.alloc (.map #[] 0)) w.heap.size 0 (fun _ => false) := ⟨.map [], World.ownsMap_made _ _ _ _, fun i => rfl⟩
theorem plainBool_inv' {P : Program} {e : TypeId} (he : P.underlying e = some .bool) {v : Value} {z : DataW Unit × List MemPlace} (h : plainElem P e v = some z) : ∃ b, v = .bool b ∧ z.1 = .lit (.bool b) := by
  unfold plainElem at h
  rw [he] at h
  cases v
  case bool x => exact ⟨x, rfl, (congrArg Prod.fst (Option.some.inj h)).symm⟩
  all_goals exact absurd h (by intro e; cases e)
theorem plainBool_inv {v : Value} {z : DataW Unit × List MemPlace} (h : plainElem Tryd.prog 4 v = some z) : ∃ b, v = .bool b ∧ z.1 = .lit (.bool b) := plainBool_inv' Tryd.underlying4 h
theorem wfI {i : Int} (h : 0 ≤ i ∧ i < 4) : (Lit.int .i64 i).wf = true := WalkArith.wf_i64 (by omega)
section
variable {W W' : World} {b n : Nat} {S : Int → Bool}
theorem MB.lookup (h : MB W b n S) {i : Int} (hi : 0 ≤ i ∧ i < 4) : (Instr.lookup 61 (.map (some b)) (.int .i64 i) false).run Tryd.prog W = .ok (.bool (S i)) W := by
  obtain ⟨D, ho, hD⟩ := h
  obtain ⟨v, ps, hrun, hv⟩ := ho.lookup lawI Tryd.underlying61 (zeroB W) (plainElem_bool Tryd.underlying4 false) (keyOf_int_mk Tryd.underlying3 (wfI hi))
  obtain ⟨x, rfl, hx⟩ := plainBool_inv hv
  have hx' : D.atKey (.int .i64 i) (.lit (.bool false)) = .lit (.bool x) := hx
  rw [hD i] at hx'
  have hx2 : S i = x := by
    cases hx'
    rfl
  rw [hx2]
  exact hrun
theorem MB.store (h : MB W b n S) (hn : n < maxLen) {i : Int} (hi : 0 ≤ i ∧ i < 4) : ∃ w', (Instr.mapUpdate 61 (.map (some b)) (.int .i64 i) (.bool true)).run Tryd.prog W = .ok () w' ∧ MB w' b (n + 1) (upd S i) ∧ W.grownBy w' (some b) := by
  obtain ⟨D, ho, hD⟩ := h
  obtain ⟨w', hrun, h1, h2⟩ := ho.update lawI Tryd.underlying61 hn (keyOf_int_mk Tryd.underlying3 (wfI hi)) (plainElem_bool Tryd.underlying4 true)
  refine ⟨w', hrun, ⟨_, h1, fun j => ?_⟩, h2⟩
  by_cases hj : j = i
  · subst hj
    rw [upd_same]
    exact atKey_put_same (k := .int .i64 j) ho.isMap (show WideAt.IsKeyLit (.int .i64 j) from trivial) _ _
  · have hne : (Lit.int IntKind.i64 j) ≠ (Lit.int IntKind.i64 i) := fun e => hj (by injection e)
    rw [atKey_put_other hne, hD j]
    unfold upd
    rw [if_neg hj]
theorem MB.kept (h : MB W b n S) {row : Option Nat} (hg : W.grownBy W' row) (hne : some b ≠ row) : MB W' b n S := by
  obtain ⟨D, ho, hD⟩ := h
  exact ⟨D, ho.kept hg hne, hD⟩
theorem MB.below (h : MB W b n S) (hb : Below W.heap.size W W') : MB W' b n S := by
  obtain ⟨D, ho, hD⟩ := h
  exact ⟨D, ho.kept (row := none) ⟨hb.os, hb.tape, hb.output, hb.size, fun k hk _ => hb.block k hk⟩ (by simp), hD⟩
theorem MB.ismap (h : MB W b n S) : ∃ es clock, W.heap[b]? = some (.map es clock) := by
  obtain ⟨D, ⟨es, clock, hb, _⟩, hD⟩ := h
  exact ⟨es, clock, hb⟩
end
/-- The search's memory: the config's block gb, the map's mb, the row. -/
structure PS (w0 W : World) (gb mb n : Nat) (S : Int → Bool) (v : Value) (q : List Int) (cfg : Array Value) : Prop where
  bg : W.heap[gb]? = some (.cells cfg 26 (0, 0))
  mp : MB W mb n S
  qr : Kd.Q (Kd.int .i64) 3 W w0.heap.size (fun _ => True) v q
  bel : Below w0.heap.size w0 W
  hm : w0.heap.size ≤ mb
section
variable {w0 W W' : World} {gb mb n : Nat} {S : Int → Bool} {v : Value} {q : List Int} {cfg : Array Value}
theorem PS.far (h : PS w0 W gb mb n S v q cfg) (hb : Below W.heap.size W W') : PS w0 W' gb mb n S v q cfg := ⟨blk_below h.bg hb, h.mp.below hb, Kd.Q_below h.qr hb, below_step h.bel hb, h.hm⟩
theorem PS.mne (h : PS w0 W gb mb n S v q cfg) : some mb ≠ v.ownBlock := by
  intro e
  obtain ⟨cells, hc⟩ := Kd.Q_typed h.qr mb e.symm
  obtain ⟨es, clock, hm⟩ := h.mp.ismap
  rw [hm] at hc
  cases hc
theorem PS.gm (h : PS w0 W gb mb n S v q cfg) : gb ≠ mb := by
  rintro rfl
  obtain ⟨es, clock, hm⟩ := h.mp.ismap
  have := h.bg
  rw [hm] at this
  cases this
theorem PS.store (h : PS w0 W gb mb n S v q cfg) (hn : n < maxLen) {i : Int} (hi : 0 ≤ i ∧ i < 4) : ∃ w', (Instr.mapUpdate 61 (.map (some mb)) (.int .i64 i) (.bool true)).run Tryd.prog W = .ok () w' ∧ PS w0 w' gb mb (n + 1) (upd S i) v q cfg ∧ W.grownBy w' (some mb) := by
  obtain ⟨w', hrun, h1, h2⟩ := h.mp.store hn hi
  refine ⟨w', hrun, ⟨blk_grown h.bg h2 (by intro e; injection e with e; exact h.gm e), h1, Kd.Q_grown2 h.qr rfl h2 (fun k hk => by cases hk; exact h.mne), below_grown h.bel h2 (fun k hk => by cases hk; exact h.hm), h.hm⟩, h2⟩
theorem PS.pushed (h : PS w0 W gb mb n S v q cfg) {v1 : Value} {q1 : List Int} {w1 : World} (ho : Kd.Q (Kd.int .i64) 3 w1 w0.heap.size (fun _ => True) v1 q1) (hb : Below w0.heap.size w0 w1) (hg : W.grownBy w1 v.ownBlock) : PS w0 w1 gb mb n S v1 q1 cfg :=
  ⟨blk_grown h.bg hg (Kd.Q_ne h.qr h.bg (by decide)), h.mp.kept hg h.mne, ho, hb, h.hm⟩
theorem PS.cut {A : Option Addr} {m c : Nat} (h : PS w0 W gb mb n S (.slice A m c) q cfg) (hq : 1 ≤ q.length) : PS w0 W gb mb n S (.slice (if c = 1 then A else A.map (·.add 1)) (m - 1) (c - 1)) (q.drop 1) cfg :=
  ⟨h.bg, h.mp, Kd.Q_drop h.qr hq, h.bel, h.hm⟩
end
end Go.Proofs.YtehcgojcmcahnaaDoor.Cf
