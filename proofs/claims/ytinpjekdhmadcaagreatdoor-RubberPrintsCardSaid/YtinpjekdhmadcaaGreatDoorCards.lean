/-
  DERIVED. GIVEN WITH THE SEED: THE CARDS: each row of YtinpjekdhmadcaaGreatDoorRows.lean that lists a variable, with what it lists TIED to the program's text (the seventh form; the later family's looks); each row that meets fmt, with fmt's text TOLD by the authors' own Lean function (tested against real Go, not proved from fmt's source: count such statements apart). THE CARD IS WHAT COUNTS. Prove the row's statement (the work); the ties are given (YtinpjekdhmadcaaGreatDoorTie.lean); close each card by the builder's one call (the guide's Derived/Test/ToyasCard.lean, 'card_holds'). Laid BY PROGRAM, IN A SANDBOX (cutbox-door.mjs). By AI agents, Wed Nov 11 2026. No macro, syntax, notation, axiom, sorry.
-/
import Derived.Test.YtinpjekdhmadcaaGreatDoorRows
import GoSem.ClaimSeven
namespace Go.Proofs.YtinpjekdhmadcaaGreatDoor
namespace Rows

/-- THE TIED CARD OF 'tyreworkslaw04.RubberParses'. -/
def rubberParsesCard : Claim7 := { stood := { row := rubberParsesRow, standIns := [], harness := (true, "64a00161b05d1737bfe1e5b8df1286a1cf865a2a01ffda012d345fbecc30dc7d"), looks := true }, kinds := [], alts := [], laidByText := true, laidKinds := [.data, .pinned], laidTests := true, laidLooks := .later }
def RubberParsesCardSaid : Prop := Claim7.holds Tryz.pinned (.plain (OpenSpec.ofChange rubberParsesSpec)) rubberParsesCard

/-- THE TIED CARD OF 'tyreworkslaw04.RubberPrints'. -/
def rubberPrintsCard : Claim7 := { stood := { row := rubberPrintsRow, standIns := [], harness := (true, "64a00161b05d1737bfe1e5b8df1286a1cf865a2a01ffda012d345fbecc30dc7d"), looks := true }, kinds := [], alts := [], laidByText := true, laidKinds := [.data, .pinned], laidTests := true, laidLooks := .later }
def RubberPrintsCardSaid : Prop := Claim7.holds Tryz.pinned (.plain (OpenSpec.ofChange rubberPrintsSpec)) rubberPrintsCard

/-- THE SECOND FORM's CARD OF 'tyreworkslaw04.RubberParses'. -/
def rubberParsesUptoCard : Claim7 := { stood := { row := rubberParsesUptoRow, standIns := [], harness := (true, "64a00161b05d1737bfe1e5b8df1286a1cf865a2a01ffda012d345fbecc30dc7d"), looks := true }, kinds := [], alts := [], laidByText := true, laidKinds := [.data, .pinned], laidTests := true, laidLooks := .later }
def RubberParsesUptoCardSaid : Prop := Claim7.holds Tryz.pinned (.plain (OpenSpec.upto rubberParsesSpec)) rubberParsesUptoCard

/-- THE SECOND FORM's CARD OF 'tyreworkslaw04.RubberPrints'. -/
def rubberPrintsUptoCard : Claim7 := { stood := { row := rubberPrintsUptoRow, standIns := [], harness := (true, "64a00161b05d1737bfe1e5b8df1286a1cf865a2a01ffda012d345fbecc30dc7d"), looks := true }, kinds := [], alts := [], laidByText := true, laidKinds := [.data, .pinned], laidTests := true, laidLooks := .later }
def RubberPrintsUptoCardSaid : Prop := Claim7.holds Tryz.pinned (.plain (OpenSpec.upto rubberPrintsSpec)) rubberPrintsUptoCard
end Rows
end Go.Proofs.YtinpjekdhmadcaaGreatDoor
