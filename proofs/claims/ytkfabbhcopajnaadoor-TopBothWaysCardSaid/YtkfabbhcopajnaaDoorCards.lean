/-
  DERIVED. GIVEN WITH THE SEED: THE CARDS: each row of YtkfabbhcopajnaaDoorRows.lean that lists a variable, with what it lists TIED to the program's text (the seventh form; the later family's looks); each row that meets fmt, with fmt's text TOLD by the authors' own Lean function (tested against real Go, not proved from fmt's source: count such statements apart). THE CARD IS WHAT COUNTS. Prove the row's statement (the work); the ties are given (YtkfabbhcopajnaaDoorTie.lean); close each card by the builder's one call (the guide's Derived/Test/ToyasCard.lean, 'card_holds'). Laid BY PROGRAM, IN A SANDBOX (cutbox-door.mjs). By AI agents, Wed Nov 11 2026. No macro, syntax, notation, axiom, sorry.
-/
import Derived.Test.YtkfabbhcopajnaaDoorRows
import GoSem.ClaimSeven
namespace Go.Proofs.YtkfabbhcopajnaaDoor
namespace Rows

/-- THE TIED CARD OF 'tyreworkstop.TopBothWays'. -/
def topBothWaysCard : Claim7 := { stood := { row := topBothWaysRow, standIns := [], harness := (true, "0eb06576d250fb803477b26997cd6ae39a5a8af7bdd43c95edb378e2cdfca30d"), looks := false }, kinds := [], alts := [], laidByText := true, laidKinds := [.data, .data, .data], laidTests := true, laidLooks := .later }
def TopBothWaysCardSaid : Prop := Claim7.holds Tryd.pinned (.plain (OpenSpec.ofChange topBothWaysSpec)) topBothWaysCard

/-- THE SECOND FORM's CARD OF 'tyreworkstop.TopBothWays'. -/
def topBothWaysUptoCard : Claim7 := { stood := { row := topBothWaysUptoRow, standIns := [], harness := (true, "0eb06576d250fb803477b26997cd6ae39a5a8af7bdd43c95edb378e2cdfca30d"), looks := false }, kinds := [], alts := [], laidByText := true, laidKinds := [.data, .data, .data], laidTests := true, laidLooks := .later }
def TopBothWaysUptoCardSaid : Prop := Claim7.holds Tryd.pinned (.plain (OpenSpec.upto topBothWaysSpec)) topBothWaysUptoCard
end Rows
end Go.Proofs.YtkfabbhcopajnaaDoor
