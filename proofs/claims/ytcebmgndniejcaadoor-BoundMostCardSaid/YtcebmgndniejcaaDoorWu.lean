/- Layer 13 (window): Until. -/
import Derived.Test.YtcebmgndniejcaaDoorWb
set_option linter.unusedVariables false
set_option linter.unusedSimpArgs false
namespace Go.Proofs.YtcebmgndniejcaaDoor.Wn
open Go Go.RowKit Go.Shelf Go.Proofs.YtcebmgndniejcaaDoorW.PrintWords Go.Proofs.YtcebmgndniejcaaDoorW.PrintLast Go.Proofs.YtcebmgndniejcaaDoorW.PrintMore Go.Proofs.YtcebmgndniejcaaDoor.Cz Go.Proofs.YtcebmgndniejcaaDoor.PBoundWaits Go.Proofs.YtcebmgndniejcaaDoor.Cf Go.Proofs.YtcebmgndniejcaaDoor.Sat
attribute [local go_sem] Tryd.underlying26 Tryd.underlying41
theorem heap6 (w : World) (o1 o2 o3 o4 o5 o6 : Obj) : Below w.heap.size w ((((((w.alloc o1).alloc o2).alloc o3).alloc o4).alloc o5).alloc o6) ∧ ((((((w.alloc o1).alloc o2).alloc o3).alloc o4).alloc o5).alloc o6).heap.size = w.heap.size + 1 + 1 + 1 + 1 + 1 + 1 ∧
    ((((((w.alloc o1).alloc o2).alloc o3).alloc o4).alloc o5).alloc o6).heap[w.heap.size]? = some o1 ∧ ((((((w.alloc o1).alloc o2).alloc o3).alloc o4).alloc o5).alloc o6).heap[w.heap.size + 1]? = some o2 ∧ ((((((w.alloc o1).alloc o2).alloc o3).alloc o4).alloc o5).alloc o6).heap[w.heap.size + 1 + 1]? = some o3 ∧
    ((((((w.alloc o1).alloc o2).alloc o3).alloc o4).alloc o5).alloc o6).heap[w.heap.size + 1 + 1 + 1]? = some o4 ∧ ((((((w.alloc o1).alloc o2).alloc o3).alloc o4).alloc o5).alloc o6).heap[w.heap.size + 1 + 1 + 1 + 1]? = some o5 ∧ ((((((w.alloc o1).alloc o2).alloc o3).alloc o4).alloc o5).alloc o6).heap[w.heap.size + 1 + 1 + 1 + 1 + 1]? = some o6 := by
  obtain ⟨h1, h2, h3, h4, h5, h6⟩ := heap5 w o1 o2 o3 o4 o5
  refine ⟨below_alloc h1 _, by rw [World.size_alloc, h2], blk_alloc ?_ _, blk_alloc h3 _, blk_alloc h4 _, blk_alloc h5 _, blk_alloc h6 _, ?_⟩
  · exact blk_alloc (blk_alloc (blk_alloc (blk_alloc (blk_new w o1) o2) o3) o4) o5
  · have := blk_new (((((w.alloc o1).alloc o2).alloc o3).alloc o4).alloc o5) o6
    rw [h2] at this
    exact this
/-- The next tick of a phase. -/
def tnext (a F p : Int) : Int := tadd a (gap (cut a) F p)
/-- The phase of a tick. -/
def phase (C : Cfg) (now : Int) : Int := cut now % fr C.f
/-- The first one of a row, or -1. -/
def fstO : List Int → Int
  | [] => -1
  | x :: _ => x
theorem fstO_snoc {l : List Int} {x : Int} (h : ∀ y ∈ l, 0 ≤ y) : (if fstO l < 0 then x else fstO l) = fstO (l ++ [x]) := by
  cases l with
  | nil => rfl
  | cons y t =>
    have := h y (List.mem_cons_self ..)
    show (if y < 0 then x else y) = y
    rw [if_neg (by omega)]
/-- The first tick from one on that is an owner's. -/
def untilN (C : Cfg) (o now : Int) : Int := match (phs C o).find? (fun p => decide (phase C now ≤ p)) with
  | some p => tnext now C.f p
  | none => if fstO (phs C o) < 0 then -1 else tnext now C.f (fstO (phs C o))
theorem phW_mem {o : Int} {x : S41} {p : Int} (h : p ∈ phW o x) : x.f0 = o ∧ x.f1 ≤ p ∧ p < x.f1 + x.f2 := by
  unfold phW at h
  split at h
  · rename_i ho
    obtain ⟨i, hi, rfl⟩ := List.mem_map.1 h
    have := List.mem_range.1 hi
    exact ⟨ho, by omega, by omega⟩
  · cases h
theorem phs_mem {C : Cfg} {o p : Int} (h : p ∈ phs C o) : okB C = true ∧ 0 ≤ p ∧ p < C.f := by
  unfold phs at h
  split at h
  · rename_i hok
    obtain ⟨x, hx, hp⟩ := List.mem_flatMap.1 h
    have h1 := phW_mem hp
    have h2 := ok_win hok x hx
    exact ⟨hok, by omega, by omega⟩
  · cases h
theorem vals_mem {C : Cfg} {o p : Int} {l : List (PhT C o)} (h : p ∈ vals l) : p ∈ phs C o := by
  obtain ⟨x, _, rfl⟩ := List.mem_map.1 h
  exact x.2
theorem until_stop {C : Cfg} {o now x : Int} {q : List Int} (hp : q ++ [x] <+: phs C o) (hq : ∀ p ∈ q, ¬ phase C now ≤ p) (hx : phase C now ≤ x) : untilN C o now = tnext now C.f x := by
  obtain ⟨r, hr⟩ := hp
  unfold untilN
  rw [← hr, List.append_assoc, List.find?_append, List.find?_eq_none.2 (fun p hp => by simpa using hq p hp)]
  simp [hx]
theorem until_done {C : Cfg} {o now : Int} (hq : ∀ p ∈ phs C o, ¬ phase C now ≤ p) : untilN C o now = if fstO (phs C o) < 0 then -1 else tnext now C.f (fstO (phs C o)) := by
  unfold untilN
  rw [List.find?_eq_none.2 (fun p hp => by simpa using hq p hp)]
theorem fstO_mem {l : List Int} (h : ¬ fstO l < 0) : fstO l ∈ l := by
  cases l with
  | nil => exact absurd (by decide) h
  | cons y t => exact List.mem_cons_self ..
attribute [local go_sem] Oper.semAt_some
end Go.Proofs.YtcebmgndniejcaaDoor.Wn
