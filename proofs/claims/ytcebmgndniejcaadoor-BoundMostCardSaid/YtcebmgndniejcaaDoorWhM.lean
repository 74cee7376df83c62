/- Layer 13 (window): Wh, Wf, We, laid into one text by wip/bmerge.py. -/
import Derived.Test.YtcebmgndniejcaaDoorWt
import Derived.Deep.RegionHeld3
/- Layer 13 (window): Whose. -/
set_option linter.unusedVariables false
set_option linter.unusedSimpArgs false
namespace Go.Proofs.YtcebmgndniejcaaDoor.Wn
open Go Go.RowKit Go.Shelf Go.Proofs.YtcebmgndniejcaaDoorW.PrintWords Go.Proofs.YtcebmgndniejcaaDoorW.PrintLast Go.Proofs.YtcebmgndniejcaaDoorW.PrintMore Go.Proofs.YtcebmgndniejcaaDoor.Cz Go.Proofs.YtcebmgndniejcaaDoor.PBoundWaits Go.Proofs.YtcebmgndniejcaaDoor.Cf Go.Proofs.YtcebmgndniejcaaDoor.Sat
attribute [local go_sem] Tryd.underlying26 Tryd.underlying41
/-- Whose a phase is. -/
def atW (ph : Int) : List S41 → Option Int
  | [] => none
  | x :: t => if x.f1 ≤ ph ∧ ph < x.f1 + x.f2 then some x.f0 else atW ph t
theorem atW_step (ph : Int) (xs : List S41) (j : Nat) (h : j < xs.length) : atW ph (xs.drop j) = if xs[j].f1 ≤ ph ∧ ph < xs[j].f1 + xs[j].f2 then some xs[j].f0 else atW ph (xs.drop (j + 1)) := by
  rw [List.drop_eq_getElem_cons h]
  rfl
/-- Whose a tick is. -/
def whoN (C : Cfg) (now : Int) : Option Int := if okB C = true then atW (phase C now) C.ws else none
end Go.Proofs.YtcebmgndniejcaaDoor.Wn

/- Layer 13 (window): Before. -/
set_option linter.unusedVariables false
set_option linter.unusedSimpArgs false
namespace Go.Proofs.YtcebmgndniejcaaDoor.Wn
open Go Go.RowKit Go.Shelf Go.Proofs.YtcebmgndniejcaaDoorW.PrintWords Go.Proofs.YtcebmgndniejcaaDoorW.PrintLast Go.Proofs.YtcebmgndniejcaaDoorW.PrintMore Go.Proofs.YtcebmgndniejcaaDoor.Cz Go.Proofs.YtcebmgndniejcaaDoor.PBoundWaits Go.Proofs.YtcebmgndniejcaaDoor.Cf Go.Proofs.YtcebmgndniejcaaDoor.Sat
attribute [local go_sem] Tryd.underlying26 Tryd.underlying41
/-- How many ticks below one are an owner's. -/
def beforeN (C : Cfg) (o now : Int) : Int := tadd (tmul (cut now / fr C.f) (countN C o)) (belowN C o (phase C now))
set_option maxHeartbeats 16000000 in
set_option maxRecDepth 100000 in
theorem before_any {C : Cfg} {A2 A3 A4 : Option Addr} {c2 c3 c4 : Nat} {w : World} (hX : CX w C A2 c2 A3 c3 A4 c4) (hg : LG w) (lk : C.ks.length ≤ 1000) (la : C.ac.length ≤ 1000) (lw : C.ws.length ≤ 1000) (o now : Int) :
    Calls Tryd.prog 27 #[.agg #[.int .i64 C.p, .int .i64 C.f, .slice A2 C.ws.length c2, .slice A3 C.ks.length c3, .slice A4 C.ac.length c4], .int .i64 o, .int .i64 now] w fun e w' => e = .returned (.int .i64 (beforeN C o now)) ∧ Below w.heap.size w w' := by
  have H1 : Below w.heap.size w (w.alloc (.cells #[.int .i64 C.p, .int .i64 C.f, .slice A2 C.ws.length c2, .slice A3 C.ks.length c3, .slice A4 C.ac.length c4] 26)) ∧ (w.alloc (.cells #[.int .i64 C.p, .int .i64 C.f, .slice A2 C.ws.length c2, .slice A3 C.ks.length c3, .slice A4 C.ac.length c4] 26)).heap[w.heap.size]? = some (.cells #[.int .i64 C.p, .int .i64 C.f, .slice A2 C.ws.length c2, .slice A3 C.ks.length c3, .slice A4 C.ac.length c4] 26 (0, 0)) := ⟨below_alloc (Below.refl _ _) _, blk_new _ _⟩
  have PX := Aside0.mk (fun w => phase_any now C.f w)
  have RX := Aside0.mk (fun w => round_any now C.f w)
  have hph : phase C now = cut now % fr C.f := rfl
  rw [← hph] at PX
  clear hph
  have CN := Aside0.mk (fun (W : World) (hb : Below w.heap.size w W) => count_any (hX.below hb) (hg.below hb) lk la lw o)
  have BN := Aside0.mk (fun (W : World) (hb : Below w.heap.size w W) => below_any (hX.below hb) (hg.below hb) lk la lw o (phase C now))
  have HV : Aside0 (beforeN C o now = tadd (tmul (cut now / fr C.f) (countN C o)) (belowN C o (phase C now))) := ⟨rfl⟩
  generalize beforeN C o now = res at HV ⊢
  generalize phase C now = ph at PX BN HV
  generalize countN C o = k at CN HV
  generalize belowN C o ph = b at BN HV
  generalize cut now / fr C.f = rd at RX HV
  clear hX hg lk la lw
  go_enter Tryd.func27, Tryd.ntmps27
  go_upto_region 1 with (first | fail)
  revert H1
  generalize (w.alloc (.cells #[.int .i64 C.p, .int .i64 C.f, .slice A2 C.ws.length c2, .slice A3 C.ks.length c3, .slice A4 C.ac.length c4] 26)) = W1
  intro H1
  have b0 := (blk_cell H1.2 0).trans (show _ = some (.int .i64 C.p) from rfl)
  have b1 := (blk_cell H1.2 1).trans (show _ = some (.int .i64 C.f) from rfl)
  have b2 := (blk_cell H1.2 2).trans (show _ = some (.slice A2 C.ws.length c2) from rfl)
  have b3 := (blk_cell H1.2 3).trans (show _ = some (.slice A3 C.ks.length c3) from rfl)
  have b4 := (blk_cell H1.2 4).trans (show _ = some (.slice A4 C.ac.length c4) from rfl)
  have TS := Aside0.mk (fun (W : World) (hb : Below W1.heap.size W1 W) => And.intro (cell_b b0 hb) (And.intro (cell_b b1 hb) (And.intro (cell_b b2 hb) (And.intro (cell_b b3 hb) (cell_b b4 hb)))))
  have HW := Aside0.mk H1.1
  have HB := Aside0.mk (below_drew (Below.refl W1.heap.size W1))
  clear H1
  go_region_held3 (fun w' => w'.cell? ⟨w.heap.size, 0, none⟩ = some (.int .i64 C.p) ∧ w'.cell? ⟨w.heap.size, 1, none⟩ = some (.int .i64 C.f) ∧ w'.cell? ⟨w.heap.size, 2, none⟩ = some (.slice A2 C.ws.length c2) ∧ w'.cell? ⟨w.heap.size, 3, none⟩ = some (.slice A3 C.ks.length c3) ∧ w'.cell? ⟨w.heap.size, 4, none⟩ = some (.slice A4 C.ac.length c4)) (first | exact TS.out _ HB.out | exact TS.out _ (below_drew (Below.refl _ _)) | go_keep) (first | (go_at_call 26; (with_reducible refine (CN.out _ (below_step HW.out HB.out)).mono ?_); rintro e w7 ⟨rfl, hb⟩; have HBn := Aside0.mk (below_step HB.out hb); clear HB; have HB := HBn; clear HBn; clear hb) | (go_at_call 41; (with_reducible refine (BN.out _ (below_step HW.out HB.out)).mono ?_); rintro e w7 ⟨rfl, hb⟩; have HBn := Aside0.mk (below_step HB.out hb); clear HB; have HB := HBn; clear HBn; clear hb) | (go_at_call 43; (with_reducible refine (RX.out _).mono ?_); rintro e w7 ⟨rfl, rfl⟩) | (go_at_call 44; (with_reducible refine (PX.out _).mono ?_); rintro e w7 ⟨rfl, rfl⟩) | (go_at_call 42; (with_reducible refine (mul_any _ _ _).mono ?_); rintro e w7 ⟨rfl, rfl⟩) | (go_at_call 29; (with_reducible refine (add_any _ _ _).mono ?_); rintro e w7 ⟨rfl, rfl⟩))
  all_goals
    go_wp2
    go_ret
    exact ⟨by rw [HV.out]; rfl, below_step HW.out HB.out⟩
end Go.Proofs.YtcebmgndniejcaaDoor.Wn

/- Layer 13 (window): Serves. -/
set_option linter.unusedVariables false
set_option linter.unusedSimpArgs false
namespace Go.Proofs.YtcebmgndniejcaaDoor.Wn
open Go Go.RowKit Go.Shelf Go.Proofs.YtcebmgndniejcaaDoorW.PrintWords Go.Proofs.YtcebmgndniejcaaDoorW.PrintLast Go.Proofs.YtcebmgndniejcaaDoorW.PrintMore Go.Proofs.YtcebmgndniejcaaDoor.Cz Go.Proofs.YtcebmgndniejcaaDoor.PBoundWaits Go.Proofs.YtcebmgndniejcaaDoor.Cf Go.Proofs.YtcebmgndniejcaaDoor.Sat
attribute [local go_sem] Tryd.underlying26 Tryd.underlying43
/-- The numbers of those of the first m channels that are queuing. -/
def qu (ks : List S43) : Nat → List Int
  | 0 => []
  | m + 1 => qu ks m ++ (match ks[m]? with | some x => if x.f0 = 1 then [(m : Int)] else [] | none => [])
theorem qu_yes {ks : List S43} {m : Nat} (h : m < ks.length) (hk : ks[m].f0 = 1) : qu ks (m + 1) = qu ks m ++ [(m : Int)] := by
  show qu ks m ++ _ = _
  rw [List.getElem?_eq_getElem h]
  simp only []
  rw [if_pos hk]
theorem qu_no {ks : List S43} {m : Nat} (h : m < ks.length) (hk : ks[m].f0 ≠ 1) : qu ks (m + 1) = qu ks m := by
  show qu ks m ++ _ = _
  rw [List.getElem?_eq_getElem h]
  simp only []
  rw [if_neg hk, List.append_nil]
theorem qu_len (ks : List S43) : ∀ m, (qu ks m).length ≤ m
  | 0 => Nat.le_refl _
  | m + 1 => by
    have := qu_len ks m
    show (qu ks m ++ _).length ≤ _
    rw [List.length_append]
    split
    · split <;> simp <;> omega
    · simp; omega
/-- The queuing channels. -/
def qs (C : Cfg) : List Int := qu C.ks C.ks.length
/-- The channel that the router serves. -/
def servesN (C : Cfg) (now : Int) : Option Int := if whoN C now = some (-1) then (if qs C = [] then none else some (rd (qs C) ((beforeN C (-1) now).tmod (qs C).length))) else none
/-- Serves' memory. -/
structure SS (w0 W : World) (v : Value) (q : List Int) (cfg : Array Value) : Prop where
  bg : W.heap[w0.heap.size]? = some (.cells cfg 26 (0, 0))
  r : (Kd.int .i64).R 3 W w0.heap.size (fun k => w0.heap.size ≤ k) v q
  bel : Below w0.heap.size w0 W
theorem SS.far {w0 W W' : World} {v : Value} {q : List Int} {cfg : Array Value} (h : SS w0 W v q cfg) (hb : Below W.heap.size W W') : SS w0 W' v q cfg := ⟨blk_below h.bg hb, Kd.R_below h.r hb, below_step h.bel hb⟩
theorem before_bd (C : Cfg) (o now : Int) : 0 ≤ beforeN C o now ∧ beforeN C o now ≤ 4611686018427387904 := cut_bd _
end Go.Proofs.YtcebmgndniejcaaDoor.Wn
