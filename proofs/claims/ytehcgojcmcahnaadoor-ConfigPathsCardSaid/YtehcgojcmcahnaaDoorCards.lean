/-
  DERIVED. GIVEN WITH THE SEED: THE CARDS: each row of YtehcgojcmcahnaaDoorRows.lean that lists a variable, with what it lists TIED to the program's text (the seventh form; the later family's looks); each row that meets fmt, with fmt's text TOLD by the authors' own Lean function (tested against real Go, not proved from fmt's source: count such statements apart). THE CARD IS WHAT COUNTS. Prove the row's statement (the work); the ties are given (YtehcgojcmcahnaaDoorTie.lean); close each card by the builder's one call (the guide's Derived/Test/ToyasCard.lean, 'card_holds'). Laid BY PROGRAM, IN A SANDBOX (cutbox-door.mjs). By AI agents, Wed Nov 11 2026. No macro, syntax, notation, axiom, sorry.
-/
import Derived.Test.YtehcgojcmcahnaaDoorRows
import GoSem.ClaimSeven
namespace Go.Proofs.YtehcgojcmcahnaaDoor
namespace Rows

/-- THE TIED CARD OF 'empennagelaw04.ConfigOne'. -/
def configOneCard : Claim7 := { stood := { row := configOneRow, standIns := [], harness := (true, "678300a7be71e4f08ba012da5842b31af7296b8cfb644b61146a1131d10b86f1"), looks := true }, kinds := [], alts := [], laidByText := true, laidKinds := [.handle], laidTests := true, laidLooks := .later }
def ConfigOneCardSaid : Prop := Claim7.holds Tryd.pinned (.plain (OpenSpec.ofChange configOneSpec)) configOneCard

/-- THE TIED CARD OF 'empennagelaw04.ConfigSame'. -/
def configSameCard : Claim7 := { stood := { row := configSameRow, standIns := [], harness := (true, "678300a7be71e4f08ba012da5842b31af7296b8cfb644b61146a1131d10b86f1"), looks := true }, kinds := [], alts := [], laidByText := true, laidKinds := [.handle], laidTests := true, laidLooks := .later }
def ConfigSameCardSaid : Prop := Claim7.holds Tryd.pinned (.plain (OpenSpec.ofChange configSameSpec)) configSameCard

/-- THE TIED CARD OF 'empennagelaw04.ConfigWays'. -/
def configWaysCard : Claim7 := { stood := { row := configWaysRow, standIns := [], harness := (true, "678300a7be71e4f08ba012da5842b31af7296b8cfb644b61146a1131d10b86f1"), looks := true }, kinds := [], alts := [], laidByText := true, laidKinds := [.handle], laidTests := true, laidLooks := .later }
def ConfigWaysCardSaid : Prop := Claim7.holds Tryd.pinned (.plain (OpenSpec.ofChange configWaysSpec)) configWaysCard

/-- THE TIED CARD OF 'empennagelaw04.ConfigPaths'. -/
def configPathsCard : Claim7 := { stood := { row := configPathsRow, standIns := [], harness := (true, "678300a7be71e4f08ba012da5842b31af7296b8cfb644b61146a1131d10b86f1"), looks := true }, kinds := [], alts := [], laidByText := true, laidKinds := [.handle], laidTests := true, laidLooks := .later }
def ConfigPathsCardSaid : Prop := Claim7.holds Tryd.pinned (.plain (OpenSpec.ofChange configPathsSpec)) configPathsCard

/-- THE TIED CARD OF 'empennagelaw04.ConfigLess'. -/
def configLessCard : Claim7 := { stood := { row := configLessRow, standIns := [], harness := (true, "678300a7be71e4f08ba012da5842b31af7296b8cfb644b61146a1131d10b86f1"), looks := true }, kinds := [], alts := [], laidByText := true, laidKinds := [.handle], laidTests := true, laidLooks := .later }
def ConfigLessCardSaid : Prop := Claim7.holds Tryd.pinned (.plain (OpenSpec.ofChange configLessSpec)) configLessCard

/-- THE SECOND FORM's CARD OF 'empennagelaw04.ConfigOne'. -/
def configOneUptoCard : Claim7 := { stood := { row := configOneUptoRow, standIns := [], harness := (true, "678300a7be71e4f08ba012da5842b31af7296b8cfb644b61146a1131d10b86f1"), looks := true }, kinds := [], alts := [], laidByText := true, laidKinds := [.handle], laidTests := true, laidLooks := .later }
def ConfigOneUptoCardSaid : Prop := Claim7.holds Tryd.pinned (.plain (OpenSpec.upto configOneSpec)) configOneUptoCard

/-- THE SECOND FORM's CARD OF 'empennagelaw04.ConfigSame'. -/
def configSameUptoCard : Claim7 := { stood := { row := configSameUptoRow, standIns := [], harness := (true, "678300a7be71e4f08ba012da5842b31af7296b8cfb644b61146a1131d10b86f1"), looks := true }, kinds := [], alts := [], laidByText := true, laidKinds := [.handle], laidTests := true, laidLooks := .later }
def ConfigSameUptoCardSaid : Prop := Claim7.holds Tryd.pinned (.plain (OpenSpec.upto configSameSpec)) configSameUptoCard

/-- THE SECOND FORM's CARD OF 'empennagelaw04.ConfigWays'. -/
def configWaysUptoCard : Claim7 := { stood := { row := configWaysUptoRow, standIns := [], harness := (true, "678300a7be71e4f08ba012da5842b31af7296b8cfb644b61146a1131d10b86f1"), looks := true }, kinds := [], alts := [], laidByText := true, laidKinds := [.handle], laidTests := true, laidLooks := .later }
def ConfigWaysUptoCardSaid : Prop := Claim7.holds Tryd.pinned (.plain (OpenSpec.upto configWaysSpec)) configWaysUptoCard

/-- THE SECOND FORM's CARD OF 'empennagelaw04.ConfigPaths'. -/
def configPathsUptoCard : Claim7 := { stood := { row := configPathsUptoRow, standIns := [], harness := (true, "678300a7be71e4f08ba012da5842b31af7296b8cfb644b61146a1131d10b86f1"), looks := true }, kinds := [], alts := [], laidByText := true, laidKinds := [.handle], laidTests := true, laidLooks := .later }
def ConfigPathsUptoCardSaid : Prop := Claim7.holds Tryd.pinned (.plain (OpenSpec.upto configPathsSpec)) configPathsUptoCard

/-- THE SECOND FORM's CARD OF 'empennagelaw04.ConfigLess'. -/
def configLessUptoCard : Claim7 := { stood := { row := configLessUptoRow, standIns := [], harness := (true, "678300a7be71e4f08ba012da5842b31af7296b8cfb644b61146a1131d10b86f1"), looks := true }, kinds := [], alts := [], laidByText := true, laidKinds := [.handle], laidTests := true, laidLooks := .later }
def ConfigLessUptoCardSaid : Prop := Claim7.holds Tryd.pinned (.plain (OpenSpec.upto configLessSpec)) configLessUptoCard
end Rows
end Go.Proofs.YtehcgojcmcahnaaDoor
