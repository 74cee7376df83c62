/-
  DERIVED. GIVEN WITH THE SEED: THE CARDS: each row of YtcebmgndniejcaaDoorRows.lean that lists a variable, with what it lists TIED to the program's text (the seventh form; the later family's looks); each row that meets fmt, with fmt's text TOLD by the authors' own Lean function (tested against real Go, not proved from fmt's source: count such statements apart). THE CARD IS WHAT COUNTS. Prove the row's statement (the work); the ties are given (YtcebmgndniejcaaDoorTie.lean); close each card by the builder's one call (the guide's Derived/Test/ToyasCard.lean, 'card_holds'). Laid BY PROGRAM, IN A SANDBOX (cutbox-door.mjs). By AI agents, Wed Nov 11 2026. No macro, syntax, notation, axiom, sorry.
-/
import Derived.Test.YtcebmgndniejcaaDoorRows
import GoSem.ClaimSeven
namespace Go.Proofs.YtcebmgndniejcaaDoor
namespace Rows

/-- THE TIED CARD OF 'empennagelaw21.BoundServes'. -/
def boundServesCard : Claim7 := { stood := { row := boundServesRow, standIns := [], harness := (true, "5ebbca39c5383996395e8987e5addba792eb21c8aa0196082dab90e60a85c5db"), looks := true }, kinds := [], alts := [], laidByText := true, laidKinds := [.handle], laidTests := true, laidLooks := .later }
def BoundServesCardSaid : Prop := Claim7.holds Tryd.pinned (.plain (OpenSpec.ofChange boundServesSpec)) boundServesCard

/-- THE TIED CARD OF 'empennagelaw21.BoundWaits'. -/
def boundWaitsCard : Claim7 := { stood := { row := boundWaitsRow, standIns := [], harness := (true, "5ebbca39c5383996395e8987e5addba792eb21c8aa0196082dab90e60a85c5db"), looks := true }, kinds := [], alts := [], laidByText := true, laidKinds := [.handle], laidTests := true, laidLooks := .later }
def BoundWaitsCardSaid : Prop := Claim7.holds Tryd.pinned (.plain (OpenSpec.ofChange boundWaitsSpec)) boundWaitsCard

/-- THE TIED CARD OF 'empennagelaw21.BoundTurns'. -/
def boundTurnsCard : Claim7 := { stood := { row := boundTurnsRow, standIns := [], harness := (true, "5ebbca39c5383996395e8987e5addba792eb21c8aa0196082dab90e60a85c5db"), looks := true }, kinds := [], alts := [], laidByText := true, laidKinds := [.handle], laidTests := true, laidLooks := .later }
def BoundTurnsCardSaid : Prop := Claim7.holds Tryd.pinned (.plain (OpenSpec.ofChange boundTurnsSpec)) boundTurnsCard

/-- THE TIED CARD OF 'empennagelaw21.BoundCycles'. -/
def boundCyclesCard : Claim7 := { stood := { row := boundCyclesRow, standIns := [], harness := (true, "5ebbca39c5383996395e8987e5addba792eb21c8aa0196082dab90e60a85c5db"), looks := true }, kinds := [], alts := [], laidByText := true, laidKinds := [.handle], laidTests := true, laidLooks := .later }
def BoundCyclesCardSaid : Prop := Claim7.holds Tryd.pinned (.plain (OpenSpec.ofChange boundCyclesSpec)) boundCyclesCard

/-- THE TIED CARD OF 'empennagelaw21.BoundMost'. -/
def boundMostCard : Claim7 := { stood := { row := boundMostRow, standIns := [], harness := (true, "5ebbca39c5383996395e8987e5addba792eb21c8aa0196082dab90e60a85c5db"), looks := true }, kinds := [], alts := [], laidByText := true, laidKinds := [.handle], laidTests := true, laidLooks := .later }
def BoundMostCardSaid : Prop := Claim7.holds Tryd.pinned (.plain (OpenSpec.ofChange boundMostSpec)) boundMostCard

/-- THE SECOND FORM's CARD OF 'empennagelaw21.BoundServes'. -/
def boundServesUptoCard : Claim7 := { stood := { row := boundServesUptoRow, standIns := [], harness := (true, "5ebbca39c5383996395e8987e5addba792eb21c8aa0196082dab90e60a85c5db"), looks := true }, kinds := [], alts := [], laidByText := true, laidKinds := [.handle], laidTests := true, laidLooks := .later }
def BoundServesUptoCardSaid : Prop := Claim7.holds Tryd.pinned (.plain (OpenSpec.upto boundServesSpec)) boundServesUptoCard

/-- THE SECOND FORM's CARD OF 'empennagelaw21.BoundWaits'. -/
def boundWaitsUptoCard : Claim7 := { stood := { row := boundWaitsUptoRow, standIns := [], harness := (true, "5ebbca39c5383996395e8987e5addba792eb21c8aa0196082dab90e60a85c5db"), looks := true }, kinds := [], alts := [], laidByText := true, laidKinds := [.handle], laidTests := true, laidLooks := .later }
def BoundWaitsUptoCardSaid : Prop := Claim7.holds Tryd.pinned (.plain (OpenSpec.upto boundWaitsSpec)) boundWaitsUptoCard

/-- THE SECOND FORM's CARD OF 'empennagelaw21.BoundTurns'. -/
def boundTurnsUptoCard : Claim7 := { stood := { row := boundTurnsUptoRow, standIns := [], harness := (true, "5ebbca39c5383996395e8987e5addba792eb21c8aa0196082dab90e60a85c5db"), looks := true }, kinds := [], alts := [], laidByText := true, laidKinds := [.handle], laidTests := true, laidLooks := .later }
def BoundTurnsUptoCardSaid : Prop := Claim7.holds Tryd.pinned (.plain (OpenSpec.upto boundTurnsSpec)) boundTurnsUptoCard

/-- THE SECOND FORM's CARD OF 'empennagelaw21.BoundCycles'. -/
def boundCyclesUptoCard : Claim7 := { stood := { row := boundCyclesUptoRow, standIns := [], harness := (true, "5ebbca39c5383996395e8987e5addba792eb21c8aa0196082dab90e60a85c5db"), looks := true }, kinds := [], alts := [], laidByText := true, laidKinds := [.handle], laidTests := true, laidLooks := .later }
def BoundCyclesUptoCardSaid : Prop := Claim7.holds Tryd.pinned (.plain (OpenSpec.upto boundCyclesSpec)) boundCyclesUptoCard

/-- THE SECOND FORM's CARD OF 'empennagelaw21.BoundMost'. -/
def boundMostUptoCard : Claim7 := { stood := { row := boundMostUptoRow, standIns := [], harness := (true, "5ebbca39c5383996395e8987e5addba792eb21c8aa0196082dab90e60a85c5db"), looks := true }, kinds := [], alts := [], laidByText := true, laidKinds := [.handle], laidTests := true, laidLooks := .later }
def BoundMostUptoCardSaid : Prop := Claim7.holds Tryd.pinned (.plain (OpenSpec.upto boundMostSpec)) boundMostUptoCard
end Rows
end Go.Proofs.YtcebmgndniejcaaDoor
