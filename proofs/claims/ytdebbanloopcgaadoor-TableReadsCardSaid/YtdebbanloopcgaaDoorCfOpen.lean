/- A config handed in: its numbers and lists, read off the row's hypothesis; the laid variable. -/
import Derived.Test.YtdebbanloopcgaaDoorCfM1
import Derived.Test.YtdebbanloopcgaaDoorOpen
import Derived.Test.YtdebbanloopcgaaDoorRows
import Derived.ChangeSame
import Derived.ChangeVars
import Derived.JoinedOf
import Derived.RowKit
import Derived.RowKitTokens
import Derived.LaidLaws
import Derived.LaidHandle
import Derived.Stop.Joined
import Derived.ChangeSlices
import Derived.OpenShut
import Derived.ProofKit
set_option linter.unusedVariables false
set_option linter.unusedSimpArgs false
namespace Go.Proofs.YtdebbanloopcgaaDoor.Cf
open Go.ChangeShapes Go.WideShapes Go.ChangeAt Go.RowKit Go.Proofs.YtdebbanloopcgaaDoorW.PrintWords Go.Proofs.YtdebbanloopcgaaDoorW.PrintLast Go.Proofs.YtdebbanloopcgaaDoorW.PrintMore Go.Proofs.YtdebbanloopcgaaDoor.Cz Go.Proofs.YtdebbanloopcgaaDoor.PTableWrites Go.Proofs.YtdebbanloopcgaaDoor.Open
theorem cellsInt : Tryd.prog.cellsOf 3 = 1 := by kernel_rfl
theorem cellsW : Tryd.prog.cellsOf 22 = 1 := by kernel_rfl
theorem cellsK : Tryd.prog.cellsOf 23 = 1 := by kernel_rfl
theorem cellsAc : Tryd.prog.cellsOf 24 = 1 := by kernel_rfl
theorem cellsCfg : Tryd.prog.cellsOf 26 = 5 := by kernel_rfl
theorem list5 {α : Type} (l : List α) (h : l.length = 5) : ∃ a b c d e, l = [a, b, c, d, e] := by
  match l, h with
  | [a, b, c, d, e], _ => exact ⟨a, b, c, d, e, rfl⟩
theorem rows46 {W : World} {A : Option Addr} {n : Nat} {L : Nat → Nat → Int} (h : IntRows W A n 3 L) (hn : n ≤ maxLen) : ∃ xs : List S46, xs.length = n ∧ Kd.C k46 W A n xs := by
  refine ⟨(List.range n).map (fun i => (⟨L i 0, L i 1, L i 2⟩ : S46)), by simp, ⟨by simp, by simpa [maxLen] using hn, fun hp => ?_⟩⟩
  rcases h with h | ⟨b, off, rfl, hc⟩
  · omega
  · refine ⟨_, rfl, fun j p hj => ?_⟩
    have hjn : j < n := by have := (List.getElem?_eq_some_iff.1 hj).1; simpa using this
    simp [hjn] at hj
    subst hj
    refine ⟨[.int .i64 (L j 0), .int .i64 (L j 1), .int .i64 (L j 2)], rfl, k46_mk W ⟨L j 0, L j 1, L j 2⟩, fun i u hu => ?_⟩
    show W.cell? ((⟨b, off, none⟩ : Addr).add (j * 3 + i)) = some u
    rw [add_row, ← Nat.add_assoc]
    have hi : i < 3 := by have := (List.getElem?_eq_some_iff.1 hu).1; simpa using this
    rw [hc j hjn i hi, ← hu]
    rcases i with _ | _ | _ | i
    · rfl
    · rfl
    · rfl
    · omega
theorem rows57 {W : World} {A : Option Addr} {n : Nat} {L : Nat → Nat → Int} (h : IntRows W A n 11 L) (hn : n ≤ maxLen) : ∃ xs : List S57, xs.length = n ∧ Kd.C k57 W A n xs := by
  refine ⟨(List.range n).map (fun i => (⟨L i 0, L i 1, L i 2, L i 3, L i 4, L i 5, L i 6, L i 7, L i 8, L i 9, L i 10⟩ : S57)), by simp, ⟨by simp, by simpa [maxLen] using hn, fun hp => ?_⟩⟩
  rcases h with h | ⟨b, off, rfl, hc⟩
  · omega
  · refine ⟨_, rfl, fun j p hj => ?_⟩
    have hjn : j < n := by have := (List.getElem?_eq_some_iff.1 hj).1; simpa using this
    simp [hjn] at hj
    subst hj
    refine ⟨[.int .i64 (L j 0), .int .i64 (L j 1), .int .i64 (L j 2), .int .i64 (L j 3), .int .i64 (L j 4), .int .i64 (L j 5), .int .i64 (L j 6), .int .i64 (L j 7), .int .i64 (L j 8), .int .i64 (L j 9), .int .i64 (L j 10)], rfl, k57_mk W ⟨L j 0, L j 1, L j 2, L j 3, L j 4, L j 5, L j 6, L j 7, L j 8, L j 9, L j 10⟩, fun i u hu => ?_⟩
    show W.cell? ((⟨b, off, none⟩ : Addr).add (j * 11 + i)) = some u
    rw [add_row, ← Nat.add_assoc]
    have hi : i < 11 := by have := (List.getElem?_eq_some_iff.1 hu).1; simpa using this
    rw [hc j hjn i hi, ← hu]
    rcases i with _ | _ | _ | _ | _ | _ | _ | _ | _ | _ | _ | i
    all_goals first | rfl | omega
theorem ints_of {W : World} {A : Option Addr} {len cap : Nat} {zs : List Int} (h : (A = none ∧ len = 0 ∧ cap = 0 ∧ zs = []) ∨ ∃ x, A = some x ∧ len ≤ cap ∧ cap ≤ maxLen ∧ zs.length = cap ∧ (∀ i, i < zs.length → W.cell? (x.add i) = some (.int .i64 (zs.getD i 0))) ∧ ∀ n ∈ zs, (Lit.int .i64 n).wf = true) :
    ∃ l : List Int, l.length = len ∧ Kd.C (Kd.int .i64) W A len l ∧ len ≤ maxLen ∧ len ≤ cap := by
  obtain ⟨l, rfl, ⟨h1, h2, h3⟩, hm, _, hc⟩ := ReadsInt.ofRowC h
  refine ⟨l, rfl, ⟨rfl, h2, fun hp => ?_⟩, hm, hc⟩
  obtain ⟨ad, rfl, h4⟩ := h3 hp
  refine ⟨ad, rfl, fun j p hj => ⟨[.int .i64 p], rfl, rfl, fun i u hu => ?_⟩⟩
  have hi0 : i = 0 := by
    rcases i with _ | i
    · rfl
    · simp at hu
  subst hi0
  simp at hu
  subst hu
  have hjl : j < l.length := (List.getElem?_eq_some_iff.1 hj).1
  have h5 := h4 j hjl
  have e : l.getD j 0 = p := by rw [List.getD_eq_getElem?_getD, hj]; rfl
  rw [e] at h5
  show W.cell? (ad.add (j * 1 + 0)) = _
  rw [show j * 1 + 0 = j by omega]
  exact h5
theorem slice_of {H : Type} {enc : TypeId × Value → H} {W : World} {spare : Nat → Bool} {held : Bool} {n : Nat} {t e : TypeId} {a : Value} {y : DataW H × List MemPlace} (ht : Tryd.prog.underlying t = some (.slice e)) (h : DataW.trod enc Tryd.prog W 0 spare held n t [a] = some y) : ∃ A len cap, a = .slice A len cap := by
  rcases DataW.trod_slice ht h with ⟨hcs, _⟩ | ⟨x, len, cap, _, _, _, _, hcs, _⟩
  · exact ⟨_, _, _, by simpa using hcs⟩
  · exact ⟨_, _, _, by simpa using hcs⟩
set_option maxRecDepth 100000 in
theorem open_cfg {H : Type} {enc : TypeId × Value → H} {W : World} {base : Nat} {spare : Nat → Bool} {held : Bool} {v : Value} {d : DataW H} {pl : List MemPlace} (hv : Value.okWide Tryd.prog W .any base 26 v) (h : DataW.Trod enc Tryd.prog W 0 spare held 26 v d pl) :
    ∃ (C : Cfg) (A2 : Option Addr) (c2 : Nat) (A3 : Option Addr) (c3 : Nat) (A4 : Option Addr) (c4 : Nat), v = .agg #[.int .i64 C.p, .int .i64 C.f, .slice A2 C.ws.length c2, .slice A3 C.ks.length c3, .slice A4 C.ac.length c4] ∧ CX W C A2 c2 A3 c3 A4 c4 ∧ C.ws.length ≤ maxLen ∧ C.ks.length ≤ maxLen ∧ C.ac.length ≤ maxLen := by
  obtain ⟨cs, rfl, hsz, _⟩ : ∃ cs, v = .agg cs ∧ cs.size = Tryd.prog.cellsOf 26 ∧ Row.okWide Tryd.prog W .any base 26 cs := by
    simpa [Value.okWide, Tryd.underlying26] using hv
  rw [cellsCfg] at hsz
  obtain ⟨l⟩ := cs
  obtain ⟨a0, a1, a2, a3, a4, rfl⟩ := list5 l hsz
  obtain ⟨fuel, hf0⟩ := h
  have hf : DataW.trod enc Tryd.prog W 0 spare held fuel 26 [a0, a1, a2, a3, a4] = some (d, pl) := hf0
  obtain ⟨xs, n, _, _, _, hlen, hfs⟩ := DataW.trod_struct Tryd.underlying26 hf
  obtain ⟨y0, y1, y2, y3, y4, rfl⟩ := list5 xs hlen
  have t0 : DataW.trod enc Tryd.prog W 0 spare held n 3 [a0] = some y0 := by simpa [cellsInt] using hfs 0 _ rfl
  have t1 : DataW.trod enc Tryd.prog W 0 spare held n 3 [a1] = some y1 := by simpa [cellsInt] using hfs 1 _ rfl
  have t2 : DataW.trod enc Tryd.prog W 0 spare held n 22 [a2] = some y2 := by simpa [cellsW] using hfs 2 _ rfl
  have t3 : DataW.trod enc Tryd.prog W 0 spare held n 23 [a3] = some y3 := by simpa [cellsK] using hfs 3 _ rfl
  have t4 : DataW.trod enc Tryd.prog W 0 spare held n 24 [a4] = some y4 := by simpa [cellsAc] using hfs 4 _ rfl
  clear hfs hf hf0 hv
  obtain ⟨p, e0, _, _⟩ := DataW.trod_int Tryd.underlying3 t0
  obtain ⟨f, e1, _, _⟩ := DataW.trod_int Tryd.underlying3 t1
  simp at e0 e1
  subst e0 e1
  obtain ⟨A2, n2, c2, rfl⟩ := slice_of Tryd.underlying22 t2
  obtain ⟨A3, n3, c3, rfl⟩ := slice_of Tryd.underlying23 t3
  obtain ⟨A4, n4, c4, rfl⟩ := slice_of Tryd.underlying24 t4
  obtain ⟨L2, hl2, hm2, hr2, _⟩ := open_int_rows' Tryd.underlying22 Tryd.underlying46 (by kernel_rfl) (by kernel_rfl) Tryd.underlying3 (fun j f hj => by rcases j with _ | _ | _ | j <;> simp at hj <;> subst hj <;> rfl) (by decide) t2
  obtain ⟨L3, hl3, hm3, hr3, _⟩ := open_int_rows' Tryd.underlying23 Tryd.underlying57 (by kernel_rfl) (by kernel_rfl) Tryd.underlying3 (fun j f hj => by rcases j with _ | _ | _ | _ | _ | _ | _ | _ | _ | _ | _ | j <;> simp at hj <;> subst hj <;> rfl) (by decide) t3
  obtain ⟨ws, hw, hwC⟩ := rows46 hr2 (Nat.le_trans hl2 hm2)
  obtain ⟨ks, hk, hkC⟩ := rows57 hr3 (Nat.le_trans hl3 hm3)
  obtain ⟨ac, ha, haC, ham, hac⟩ : ∃ ac : List Int, ac.length = n4 ∧ Kd.C (Kd.int .i64) W A4 n4 ac ∧ n4 ≤ maxLen ∧ n4 ≤ c4 := by
    rcases open_ints Tryd.underlying24 Tryd.underlying3 cellsInt t4 with ⟨hcs, _⟩ | ⟨x, l, c, zs, hcs, _, hl, hm, hz, _, hcell, hwz⟩
    · simp at hcs
      obtain ⟨rfl, rfl, rfl⟩ := hcs
      exact ints_of (.inl ⟨rfl, rfl, rfl, rfl⟩)
    · simp at hcs
      obtain ⟨rfl, rfl, rfl⟩ := hcs
      rcases hsp : spare x.block with _ | _
      · rw [hsp] at hz
        simp at hz
        obtain ⟨l1, h1, h2, h3, h4⟩ := ints_of (A := some x) (len := n4) (cap := n4) (zs := zs) (.inr ⟨x, rfl, Nat.le_refl _, Nat.le_trans hl hm, hz, hcell, hwz⟩)
        exact ⟨l1, h1, h2, h3, hl⟩
      · rw [hsp] at hz
        simp at hz
        exact ints_of (.inr ⟨x, rfl, hl, hm, hz, hcell, hwz⟩)
  subst hw hk ha
  exact ⟨⟨p, f, ws, ks, ac⟩, A2, c2, A3, c3, A4, c4, rfl, ⟨hwC, hl2, hkC, hl3, haC, hac⟩, Nat.le_trans hl2 hm2, Nat.le_trans hl3 hm3, ham⟩
/-! The laid variable. -/
theorem et : Tryd.prog.globalNamed "errors.errorType" = some 0 := by kernel_rfl
theorem rt : (Tryd.prog.cutTypes.find? (·.1 == "internal/reflectlite.rtype")).map (·.2) = some 127 := by kernel_rfl
theorem oneRow : ((List.range 169).filter fun t => Tryd.prog.rowNamed t [101, 114, 114, 111, 114]) = [77] := by kernel_rfl
theorem tsize : Tryd.prog.types.size = 169 := by kernel_rfl
theorem handle_of_laid {W : World} (h : laidMetH Tryd.prog [("errors.errorType", Rows.laid_errors_errorType)] W) : LG W := by
  have h' : laidMet Tryd.prog [] W ∧ handlesMet Tryd.prog [("errors.errorType", Rows.laid_errors_errorType)] W := h
  obtain ⟨name, u, ty, e1, e2, e3, e4, e5⟩ := h'.2 _ (List.mem_singleton.2 rfl)
  have en : name = [101, 114, 114, 111, 114] := (Option.some.inj e1).symm
  subst en
  obtain rfl := Option.some.inj (rt.symm.trans e2)
  have hm : ty ∈ (List.range 169).filter fun t => Tryd.prog.rowNamed t [101, 114, 114, 111, 114] := List.mem_filter.2 ⟨List.mem_range.2 (by rw [← tsize]; exact e3), e4⟩
  rw [oneRow] at hm
  obtain rfl := List.mem_singleton.1 hm
  have hh : typeHandle Tryd.prog 77 = .pointer (some ⟨1, 77, none⟩) := by kernel_rfl
  rw [hh] at e5
  unfold LG
  simpa using World.var?_cell et e5 0
/-- A world that meets the condition. -/
noncomputable def laidWorld (os : Os) : World :=
  let w0 := World.holding Tryd.prog os ⟨#[], #[], []⟩
  { w0 with heap := w0.heap.modify 0 fun
      | .cells _ t frozen => .cells #[.iface 127 (.agg #[.pointer (some ⟨1, 77, none⟩)])] t frozen
      | o => o }
theorem laidWorld_met (os : Os) (args : Array Value) : laidMetH Tryd.prog [("errors.errorType", Rows.laid_errors_errorType)] ((laidWorld os).forCall (fun _ _ => 0) ⟨#[], args, []⟩).memory :=
  laidMetH_of_parts (laidMet_nil _ _) (by kernel_rfl)
end Go.Proofs.YtdebbanloopcgaaDoor.Cf
