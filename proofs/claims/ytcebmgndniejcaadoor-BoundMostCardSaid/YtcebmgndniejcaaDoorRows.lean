/-
  NARROWER THAN 'FOR EVERY INPUT', by the rows' own cells (each row's printed sentence says how): BoundServes: laid · BoundWaits: laid · BoundTurns: laid · BoundCycles: laid · BoundMost: laid.
  DERIVED. THE GIVEN ROWS OF THIS SEAT. 5 by the template 'for every input the law returns true; each argument reads behind the call as it read before'; 0 by the template 'total and deterministic' (their statements: YtcebmgndniejcaaDoorTotals.lean).
  GIVEN WITH THE SEED: the statements are not yours to turn. If you find one false, say at which input.
  Laid BY PROGRAM, IN A SANDBOX (cutbox-rows.mjs): the forced cells as the released guide's own fill.sh prints them over the translation 6f9f7cac13d0a1c1… (all of the seat's roots in one cut). By AI agents, Wed Nov 11 2026. No macro, syntax, notation, axiom, sorry.
-/
import Derived.Test.YtcebmgndniejcaaDoorChecked
import GoSem.Claim
import GoSem.ClaimJoined
import GoSem.ClaimMapViews
import Derived.JoinedTies
import Derived.KernelRfl
namespace Go.Proofs.YtcebmgndniejcaaDoor
/- THE CELL 'sum', in the pinned program and in every row, IS THE sha256 OF THE DUMP (.gsa) THAT YtcebmgndniejcaaDoorProg.lean LOADS. Nothing in Lean hashes anything: it is a label: what it is worth is what the hold of that sum in a sandbox is worth. -/
noncomputable def Tryd.pinned : Pinned := { name := "ytcebmgndniejcaadoor", sum := "6f9f7cac13d0a1c1027b8df9b5537328a9b107b2479adb4c76d6a38f28ea377c", checked := Tryd.checked }
namespace Rows
def none {H : Type} : Left H := { results := [], args := [] }

/- WHAT THE LISTED PACKAGE-LEVEL VARIABLES READ AS WHEN THE CALL BEGINS. Each datum BY PROGRAM (the guide's laid-datum.mjs) off the statement by which the dump's own 'gosem.cut.vars' lays the variable. In a bare row this is a premise. The card (YtcebmgndniejcaaDoorCards.lean) ties it to the program's text. -/
def laid_errors_errorType {H : Type} : DataW H := .iface "internal/reflectlite.rtype" (.agg [.ptr (.lit (.string [101, 114, 114, 111, 114]))])

/-- 'empennagelaw21.BoundServes': WHATEVER THE INPUT: true; the input reads as it did. -/
def boundServesSpec : ChangeSpec := { name := "boundServes", fn := fun _ => fun
  | [d1, d2] => { results := [.lit (.bool true)], args := [d1, d2] }
  | _ => none }
def boundServesRow : OpenClaim := { program := "ytcebmgndniejcaadoor", sum := "6f9f7cac13d0a1c1027b8df9b5537328a9b107b2479adb4c76d6a38f28ea377c", func := "empennage/empennagelaw21.BoundServes", spec := "boundServes", inPlace := ["internal/reflectlite.ValueOf", "(internal/reflectlite.Value).Type", "(internal/reflectlite.Value).IsNil", "internal/reflectlite.TypeOf", "(internal/reflectlite.Value).Elem", "(internal/reflectlite.Value).Set"], unfollowed := true, recurses := true, named := ["errors.errorType"], apart := false, laid := [("errors.errorType", laid_errors_errorType)] }
def BoundServesSaid : Prop := boundServesRow.holds Tryd.pinned (OpenSpec.ofChange boundServesSpec)

/-- ITS FALSE NEIGHBOUR: 'it returns false'. Refute it at one input. -/
def boundServesWrong : ChangeSpec := { name := "boundServes", fn := fun _ => fun
  | [d1, d2] => { results := [.lit (.bool false)], args := [d1, d2] }
  | _ => none }
def BoundServesWrongFalsely : Prop := boundServesRow.holds Tryd.pinned (OpenSpec.ofChange boundServesWrong)

/-- 'empennagelaw21.BoundWaits': WHATEVER THE INPUT: true; the input reads as it did. -/
def boundWaitsSpec : ChangeSpec := { name := "boundWaits", fn := fun _ => fun
  | [d1, d2, d3] => { results := [.lit (.bool true)], args := [d1, d2, d3] }
  | _ => none }
def boundWaitsRow : OpenClaim := { program := "ytcebmgndniejcaadoor", sum := "6f9f7cac13d0a1c1027b8df9b5537328a9b107b2479adb4c76d6a38f28ea377c", func := "empennage/empennagelaw21.BoundWaits", spec := "boundWaits", inPlace := ["internal/reflectlite.ValueOf", "(internal/reflectlite.Value).Type", "(internal/reflectlite.Value).IsNil", "internal/reflectlite.TypeOf", "(internal/reflectlite.Value).Elem", "(internal/reflectlite.Value).Set"], unfollowed := true, recurses := true, named := ["errors.errorType"], apart := false, laid := [("errors.errorType", laid_errors_errorType)] }
def BoundWaitsSaid : Prop := boundWaitsRow.holds Tryd.pinned (OpenSpec.ofChange boundWaitsSpec)

/-- ITS FALSE NEIGHBOUR: 'it returns false'. Refute it at one input. -/
def boundWaitsWrong : ChangeSpec := { name := "boundWaits", fn := fun _ => fun
  | [d1, d2, d3] => { results := [.lit (.bool false)], args := [d1, d2, d3] }
  | _ => none }
def BoundWaitsWrongFalsely : Prop := boundWaitsRow.holds Tryd.pinned (OpenSpec.ofChange boundWaitsWrong)

/-- 'empennagelaw21.BoundTurns': WHATEVER THE INPUT: true; the input reads as it did. -/
def boundTurnsSpec : ChangeSpec := { name := "boundTurns", fn := fun _ => fun
  | [d1, d2] => { results := [.lit (.bool true)], args := [d1, d2] }
  | _ => none }
def boundTurnsRow : OpenClaim := { program := "ytcebmgndniejcaadoor", sum := "6f9f7cac13d0a1c1027b8df9b5537328a9b107b2479adb4c76d6a38f28ea377c", func := "empennage/empennagelaw21.BoundTurns", spec := "boundTurns", inPlace := ["internal/reflectlite.ValueOf", "(internal/reflectlite.Value).Type", "(internal/reflectlite.Value).IsNil", "internal/reflectlite.TypeOf", "(internal/reflectlite.Value).Elem", "(internal/reflectlite.Value).Set"], unfollowed := true, recurses := true, named := ["errors.errorType"], apart := false, laid := [("errors.errorType", laid_errors_errorType)] }
def BoundTurnsSaid : Prop := boundTurnsRow.holds Tryd.pinned (OpenSpec.ofChange boundTurnsSpec)

/-- ITS FALSE NEIGHBOUR: 'it returns false'. Refute it at one input. -/
def boundTurnsWrong : ChangeSpec := { name := "boundTurns", fn := fun _ => fun
  | [d1, d2] => { results := [.lit (.bool false)], args := [d1, d2] }
  | _ => none }
def BoundTurnsWrongFalsely : Prop := boundTurnsRow.holds Tryd.pinned (OpenSpec.ofChange boundTurnsWrong)

/-- 'empennagelaw21.BoundCycles': WHATEVER THE INPUT: true; the input reads as it did. -/
def boundCyclesSpec : ChangeSpec := { name := "boundCycles", fn := fun _ => fun
  | [d1, d2, d3] => { results := [.lit (.bool true)], args := [d1, d2, d3] }
  | _ => none }
def boundCyclesRow : OpenClaim := { program := "ytcebmgndniejcaadoor", sum := "6f9f7cac13d0a1c1027b8df9b5537328a9b107b2479adb4c76d6a38f28ea377c", func := "empennage/empennagelaw21.BoundCycles", spec := "boundCycles", inPlace := ["internal/reflectlite.ValueOf", "(internal/reflectlite.Value).Type", "(internal/reflectlite.Value).IsNil", "internal/reflectlite.TypeOf", "(internal/reflectlite.Value).Elem", "(internal/reflectlite.Value).Set"], unfollowed := true, recurses := true, named := ["errors.errorType"], apart := false, laid := [("errors.errorType", laid_errors_errorType)] }
def BoundCyclesSaid : Prop := boundCyclesRow.holds Tryd.pinned (OpenSpec.ofChange boundCyclesSpec)

/-- ITS FALSE NEIGHBOUR: 'it returns false'. Refute it at one input. -/
def boundCyclesWrong : ChangeSpec := { name := "boundCycles", fn := fun _ => fun
  | [d1, d2, d3] => { results := [.lit (.bool false)], args := [d1, d2, d3] }
  | _ => none }
def BoundCyclesWrongFalsely : Prop := boundCyclesRow.holds Tryd.pinned (OpenSpec.ofChange boundCyclesWrong)

/-- 'empennagelaw21.BoundMost': WHATEVER THE INPUT: true; the input reads as it did. -/
def boundMostSpec : ChangeSpec := { name := "boundMost", fn := fun _ => fun
  | [d1, d2] => { results := [.lit (.bool true)], args := [d1, d2] }
  | _ => none }
def boundMostRow : OpenClaim := { program := "ytcebmgndniejcaadoor", sum := "6f9f7cac13d0a1c1027b8df9b5537328a9b107b2479adb4c76d6a38f28ea377c", func := "empennage/empennagelaw21.BoundMost", spec := "boundMost", inPlace := ["internal/reflectlite.ValueOf", "(internal/reflectlite.Value).Type", "(internal/reflectlite.Value).IsNil", "internal/reflectlite.TypeOf", "(internal/reflectlite.Value).Elem", "(internal/reflectlite.Value).Set"], unfollowed := true, recurses := true, named := ["errors.errorType"], apart := false, laid := [("errors.errorType", laid_errors_errorType)] }
def BoundMostSaid : Prop := boundMostRow.holds Tryd.pinned (OpenSpec.ofChange boundMostSpec)

/-- ITS FALSE NEIGHBOUR: 'it returns false'. Refute it at one input. -/
def boundMostWrong : ChangeSpec := { name := "boundMost", fn := fun _ => fun
  | [d1, d2] => { results := [.lit (.bool false)], args := [d1, d2] }
  | _ => none }
def BoundMostWrongFalsely : Prop := boundMostRow.holds Tryd.pinned (OpenSpec.ofChange boundMostWrong)

/- THE SECOND FORM. 'bulk': how many values and letters a reading holds, each counted each time it is reached (what is shared counts as often as it is met; a slice's spare places count too). A statement '..UptoSaid' is the law's where the arguments, and the package variables that the reading takes, are together of bulk at most 1048576: NARROWER than '..Said'. Prove '..Said' where nothing that the law and all that it calls make is longer than what came in: it says more and counts as full. Else prove '..UptoSaid'. A law counts once. -/
mutual
def uptoBulk {H : Type} : DataW H → Nat
  | .lit (.string bytes) => bytes.length + 1
  | .lit _ => 1
  | .nil => 1
  | .ptr d => uptoBulk d + 1
  | .slice elems spare => uptoBulkAll elems + uptoBulkAll spare + 1
  | .agg parts => uptoBulkAll parts + 1
  | .iface _ d => uptoBulk d + 1
  | .map entries => uptoBulkEntries entries + 1
  | .held _ => 1
def uptoBulkAll {H : Type} : List (DataW H) → Nat
  | [] => 0
  | d :: r => uptoBulk d + uptoBulkAll r
def uptoBulkEntries {H : Type} : List (Lit × DataW H) → Nat
  | [] => 0
  | x :: r => uptoBulkEntry x + uptoBulkEntries r
def uptoBulkEntry {H : Type} : Lit × DataW H → Nat
  | (.string bytes, d) => bytes.length + uptoBulk d + 1
  | (_, d) => uptoBulk d + 1
 end
def uptoSmall : (H : Type) → List (DataW H) → Bool := fun _ ds => decide (uptoBulkAll ds ≤ 1048576)
def OpenSpec.upto (s : _root_.Go.ChangeSpec) : _root_.Go.OpenSpec := { _root_.Go.OpenSpec.ofChange s with cond := some uptoSmall }

/-- 'empennagelaw21.BoundServes', WHERE WHAT IT READS IS OF BULK AT MOST 1048576: true; the input reads as it did. -/
def boundServesUptoRow : OpenClaim := { program := "ytcebmgndniejcaadoor", sum := "6f9f7cac13d0a1c1027b8df9b5537328a9b107b2479adb4c76d6a38f28ea377c", func := "empennage/empennagelaw21.BoundServes", spec := "boundServes", inPlace := ["internal/reflectlite.ValueOf", "(internal/reflectlite.Value).Type", "(internal/reflectlite.Value).IsNil", "internal/reflectlite.TypeOf", "(internal/reflectlite.Value).Elem", "(internal/reflectlite.Value).Set"], unfollowed := true, recurses := true, named := ["errors.errorType"], apart := false, laid := [("errors.errorType", laid_errors_errorType)], narrowed := true }
def BoundServesUptoSaid : Prop := boundServesUptoRow.holds Tryd.pinned (OpenSpec.upto boundServesSpec)

/-- 'empennagelaw21.BoundWaits', WHERE WHAT IT READS IS OF BULK AT MOST 1048576: true; the input reads as it did. -/
def boundWaitsUptoRow : OpenClaim := { program := "ytcebmgndniejcaadoor", sum := "6f9f7cac13d0a1c1027b8df9b5537328a9b107b2479adb4c76d6a38f28ea377c", func := "empennage/empennagelaw21.BoundWaits", spec := "boundWaits", inPlace := ["internal/reflectlite.ValueOf", "(internal/reflectlite.Value).Type", "(internal/reflectlite.Value).IsNil", "internal/reflectlite.TypeOf", "(internal/reflectlite.Value).Elem", "(internal/reflectlite.Value).Set"], unfollowed := true, recurses := true, named := ["errors.errorType"], apart := false, laid := [("errors.errorType", laid_errors_errorType)], narrowed := true }
def BoundWaitsUptoSaid : Prop := boundWaitsUptoRow.holds Tryd.pinned (OpenSpec.upto boundWaitsSpec)

/-- 'empennagelaw21.BoundTurns', WHERE WHAT IT READS IS OF BULK AT MOST 1048576: true; the input reads as it did. -/
def boundTurnsUptoRow : OpenClaim := { program := "ytcebmgndniejcaadoor", sum := "6f9f7cac13d0a1c1027b8df9b5537328a9b107b2479adb4c76d6a38f28ea377c", func := "empennage/empennagelaw21.BoundTurns", spec := "boundTurns", inPlace := ["internal/reflectlite.ValueOf", "(internal/reflectlite.Value).Type", "(internal/reflectlite.Value).IsNil", "internal/reflectlite.TypeOf", "(internal/reflectlite.Value).Elem", "(internal/reflectlite.Value).Set"], unfollowed := true, recurses := true, named := ["errors.errorType"], apart := false, laid := [("errors.errorType", laid_errors_errorType)], narrowed := true }
def BoundTurnsUptoSaid : Prop := boundTurnsUptoRow.holds Tryd.pinned (OpenSpec.upto boundTurnsSpec)

/-- 'empennagelaw21.BoundCycles', WHERE WHAT IT READS IS OF BULK AT MOST 1048576: true; the input reads as it did. -/
def boundCyclesUptoRow : OpenClaim := { program := "ytcebmgndniejcaadoor", sum := "6f9f7cac13d0a1c1027b8df9b5537328a9b107b2479adb4c76d6a38f28ea377c", func := "empennage/empennagelaw21.BoundCycles", spec := "boundCycles", inPlace := ["internal/reflectlite.ValueOf", "(internal/reflectlite.Value).Type", "(internal/reflectlite.Value).IsNil", "internal/reflectlite.TypeOf", "(internal/reflectlite.Value).Elem", "(internal/reflectlite.Value).Set"], unfollowed := true, recurses := true, named := ["errors.errorType"], apart := false, laid := [("errors.errorType", laid_errors_errorType)], narrowed := true }
def BoundCyclesUptoSaid : Prop := boundCyclesUptoRow.holds Tryd.pinned (OpenSpec.upto boundCyclesSpec)

/-- 'empennagelaw21.BoundMost', WHERE WHAT IT READS IS OF BULK AT MOST 1048576: true; the input reads as it did. -/
def boundMostUptoRow : OpenClaim := { program := "ytcebmgndniejcaadoor", sum := "6f9f7cac13d0a1c1027b8df9b5537328a9b107b2479adb4c76d6a38f28ea377c", func := "empennage/empennagelaw21.BoundMost", spec := "boundMost", inPlace := ["internal/reflectlite.ValueOf", "(internal/reflectlite.Value).Type", "(internal/reflectlite.Value).IsNil", "internal/reflectlite.TypeOf", "(internal/reflectlite.Value).Elem", "(internal/reflectlite.Value).Set"], unfollowed := true, recurses := true, named := ["errors.errorType"], apart := false, laid := [("errors.errorType", laid_errors_errorType)], narrowed := true }
def BoundMostUptoSaid : Prop := boundMostUptoRow.holds Tryd.pinned (OpenSpec.upto boundMostSpec)

end Rows
end Go.Proofs.YtcebmgndniejcaaDoor
