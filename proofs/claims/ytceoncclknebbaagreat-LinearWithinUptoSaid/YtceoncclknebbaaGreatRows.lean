/-
  No cell of these rows narrows 'for every input' (looked for: loops, veiled, ifaces, maps, wideKeys, modest, calm, conditions, laid).
  DERIVED. THE GIVEN ROWS OF THIS SEAT. 4 by the template 'for every input the law returns true; each argument reads behind the call as it read before'; 0 by the template 'total and deterministic' (their statements: YtceoncclknebbaaGreatTotals.lean).
  GIVEN WITH THE SEED: the statements are not yours to turn. If you find one false, say at which input.
  Laid BY PROGRAM, IN A SANDBOX (cutbox-rows.mjs): the forced cells as the released guide's own fill.sh prints them over the translation fb3d1e40ece4f24e… (all of the seat's roots in one cut). By AI agents, Wed Nov 11 2026. No macro, syntax, notation, axiom, sorry.
-/
import Derived.Test.YtceoncclknebbaaGreatChecked
import GoSem.Claim
import GoSem.ClaimJoined
import GoSem.ClaimMapViews
import Derived.JoinedTies
import Derived.KernelRfl
namespace Go.Proofs.YtceoncclknebbaaGreat
/- THE CELL 'sum', in the pinned program and in every row, IS THE sha256 OF THE DUMP (.gsa) THAT YtceoncclknebbaaGreatProg.lean LOADS. Nothing in Lean hashes anything: it is a label: what it is worth is what the hold of that sum in a sandbox is worth. -/
noncomputable def Tryz.pinned : Pinned := { name := "ytceoncclknebbaagreat", sum := "fb3d1e40ece4f24edea2d1bfa44707ab4b5553d8ff8b7063587da82298a659e0", checked := Tryz.checked }
namespace Rows
def none {H : Type} : Left H := { results := [], args := [] }

/-- 'tyreworkslaw02.LinearChecks': WHATEVER THE INPUT: true; the input reads as it did. -/
def linearChecksSpec : ChangeSpec := { name := "linearChecks", fn := fun _ => fun
  | [d1, d2, d3, d4] => { results := [.lit (.bool true)], args := [d1, d2, d3, d4] }
  | _ => none }
def linearChecksRow : OpenClaim := { program := "ytceoncclknebbaagreat", sum := "fb3d1e40ece4f24edea2d1bfa44707ab4b5553d8ff8b7063587da82298a659e0", func := "tyreworks/tyreworkslaw02.LinearChecks", spec := "linearChecks", inPlace := ["math/bits.Add64", "math/bits.Sub64", "internal/abi.NoEscape", "internal/bytealg.MakeNoZero"], unfollowed := true, recurses := true, named := ["math/bits.divideError", "math/bits.overflowError"], apart := false }
def LinearChecksSaid : Prop := linearChecksRow.holds Tryz.pinned (OpenSpec.ofChange linearChecksSpec)

/-- ITS FALSE NEIGHBOUR: 'it returns false'. Refute it at one input. -/
def linearChecksWrong : ChangeSpec := { name := "linearChecks", fn := fun _ => fun
  | [d1, d2, d3, d4] => { results := [.lit (.bool false)], args := [d1, d2, d3, d4] }
  | _ => none }
def LinearChecksWrongFalsely : Prop := linearChecksRow.holds Tryz.pinned (OpenSpec.ofChange linearChecksWrong)

/-- 'tyreworkslaw02.LinearProofs': WHATEVER THE INPUT: true; the input reads as it did. -/
def linearProofsSpec : ChangeSpec := { name := "linearProofs", fn := fun _ => fun
  | [d1, d2, d3, d4] => { results := [.lit (.bool true)], args := [d1, d2, d3, d4] }
  | _ => none }
def linearProofsRow : OpenClaim := { program := "ytceoncclknebbaagreat", sum := "fb3d1e40ece4f24edea2d1bfa44707ab4b5553d8ff8b7063587da82298a659e0", func := "tyreworks/tyreworkslaw02.LinearProofs", spec := "linearProofs", inPlace := ["math/bits.Add64", "math/bits.Sub64", "internal/abi.NoEscape", "internal/bytealg.MakeNoZero"], unfollowed := true, recurses := true, named := ["math/bits.divideError", "math/bits.overflowError"], apart := false }
def LinearProofsSaid : Prop := linearProofsRow.holds Tryz.pinned (OpenSpec.ofChange linearProofsSpec)

/-- ITS FALSE NEIGHBOUR: 'it returns false'. Refute it at one input. -/
def linearProofsWrong : ChangeSpec := { name := "linearProofs", fn := fun _ => fun
  | [d1, d2, d3, d4] => { results := [.lit (.bool false)], args := [d1, d2, d3, d4] }
  | _ => none }
def LinearProofsWrongFalsely : Prop := linearProofsRow.holds Tryz.pinned (OpenSpec.ofChange linearProofsWrong)

/-- 'tyreworkslaw02.LinearMaximizes': WHATEVER THE INPUT: true; the input reads as it did. -/
def linearMaximizesSpec : ChangeSpec := { name := "linearMaximizes", fn := fun _ => fun
  | [d1, d2, d3] => { results := [.lit (.bool true)], args := [d1, d2, d3] }
  | _ => none }
def linearMaximizesRow : OpenClaim := { program := "ytceoncclknebbaagreat", sum := "fb3d1e40ece4f24edea2d1bfa44707ab4b5553d8ff8b7063587da82298a659e0", func := "tyreworks/tyreworkslaw02.LinearMaximizes", spec := "linearMaximizes", inPlace := ["math/bits.Add64", "math/bits.Sub64", "internal/abi.NoEscape", "internal/bytealg.MakeNoZero", "internal/bytealg.IndexByteString", "internal/bytealg.IndexString"], unfollowed := true, recurses := true, named := ["math/bits.divideError", "math/bits.overflowError", "internal/bytealg.MaxLen"], apart := false }
def LinearMaximizesSaid : Prop := linearMaximizesRow.holds Tryz.pinned (OpenSpec.ofChange linearMaximizesSpec)

/-- ITS FALSE NEIGHBOUR: 'it returns false'. Refute it at one input. -/
def linearMaximizesWrong : ChangeSpec := { name := "linearMaximizes", fn := fun _ => fun
  | [d1, d2, d3] => { results := [.lit (.bool false)], args := [d1, d2, d3] }
  | _ => none }
def LinearMaximizesWrongFalsely : Prop := linearMaximizesRow.holds Tryz.pinned (OpenSpec.ofChange linearMaximizesWrong)

/-- 'tyreworkslaw02.LinearWithin': WHATEVER THE INPUT: true; the input reads as it did. -/
def linearWithinSpec : ChangeSpec := { name := "linearWithin", fn := fun _ => fun
  | [d1, d2, d3] => { results := [.lit (.bool true)], args := [d1, d2, d3] }
  | _ => none }
def linearWithinRow : OpenClaim := { program := "ytceoncclknebbaagreat", sum := "fb3d1e40ece4f24edea2d1bfa44707ab4b5553d8ff8b7063587da82298a659e0", func := "tyreworks/tyreworkslaw02.LinearWithin", spec := "linearWithin", inPlace := ["math/bits.Add64", "math/bits.Sub64", "internal/abi.NoEscape", "internal/bytealg.MakeNoZero", "internal/bytealg.IndexByteString", "internal/bytealg.IndexString"], unfollowed := true, recurses := true, named := ["math/bits.divideError", "math/bits.overflowError", "internal/bytealg.MaxLen"], apart := false }
def LinearWithinSaid : Prop := linearWithinRow.holds Tryz.pinned (OpenSpec.ofChange linearWithinSpec)

/-- ITS FALSE NEIGHBOUR: 'it returns false'. Refute it at one input. -/
def linearWithinWrong : ChangeSpec := { name := "linearWithin", fn := fun _ => fun
  | [d1, d2, d3] => { results := [.lit (.bool false)], args := [d1, d2, d3] }
  | _ => none }
def LinearWithinWrongFalsely : Prop := linearWithinRow.holds Tryz.pinned (OpenSpec.ofChange linearWithinWrong)

/- THE SECOND FORM. 'bulk': how many values and letters a reading holds, each counted each time it is reached (what is shared counts as often as it is met; a slice's spare places count too). A statement '..UptoSaid' is the law's where the arguments, and the package variables that the reading takes, are together of bulk at most 1048576: NARROWER than '..Said'. Prove '..Said' where nothing that the law and all that it calls make is longer than what came in: it says more and counts as full. Else prove '..UptoSaid'. A law counts once. -/
mutual
def uptoBulk {H : Type} : DataW H → Nat
  | .lit (.string bytes) => bytes.length + 1
  | .lit _ => 1
  | .nil => 1
  | .ptr d => uptoBulk d + 1
  | .slice elems spare => uptoBulkAll elems + uptoBulkAll spare + 1
  | .agg parts => uptoBulkAll parts + 1
  | .iface _ d => uptoBulk d + 1
  | .map entries => uptoBulkEntries entries + 1
  | .held _ => 1
def uptoBulkAll {H : Type} : List (DataW H) → Nat
  | [] => 0
  | d :: r => uptoBulk d + uptoBulkAll r
def uptoBulkEntries {H : Type} : List (Lit × DataW H) → Nat
  | [] => 0
  | x :: r => uptoBulkEntry x + uptoBulkEntries r
def uptoBulkEntry {H : Type} : Lit × DataW H → Nat
  | (.string bytes, d) => bytes.length + uptoBulk d + 1
  | (_, d) => uptoBulk d + 1
 end
def uptoSmall : (H : Type) → List (DataW H) → Bool := fun _ ds => decide (uptoBulkAll ds ≤ 1048576)
def OpenSpec.upto (s : _root_.Go.ChangeSpec) : _root_.Go.OpenSpec := { _root_.Go.OpenSpec.ofChange s with cond := some uptoSmall }

/-- 'tyreworkslaw02.LinearChecks', WHERE WHAT IT READS IS OF BULK AT MOST 1048576: true; the input reads as it did. -/
def linearChecksUptoRow : OpenClaim := { program := "ytceoncclknebbaagreat", sum := "fb3d1e40ece4f24edea2d1bfa44707ab4b5553d8ff8b7063587da82298a659e0", func := "tyreworks/tyreworkslaw02.LinearChecks", spec := "linearChecks", inPlace := ["math/bits.Add64", "math/bits.Sub64", "internal/abi.NoEscape", "internal/bytealg.MakeNoZero"], unfollowed := true, recurses := true, named := ["math/bits.divideError", "math/bits.overflowError"], apart := false, narrowed := true }
def LinearChecksUptoSaid : Prop := linearChecksUptoRow.holds Tryz.pinned (OpenSpec.upto linearChecksSpec)

/-- 'tyreworkslaw02.LinearProofs', WHERE WHAT IT READS IS OF BULK AT MOST 1048576: true; the input reads as it did. -/
def linearProofsUptoRow : OpenClaim := { program := "ytceoncclknebbaagreat", sum := "fb3d1e40ece4f24edea2d1bfa44707ab4b5553d8ff8b7063587da82298a659e0", func := "tyreworks/tyreworkslaw02.LinearProofs", spec := "linearProofs", inPlace := ["math/bits.Add64", "math/bits.Sub64", "internal/abi.NoEscape", "internal/bytealg.MakeNoZero"], unfollowed := true, recurses := true, named := ["math/bits.divideError", "math/bits.overflowError"], apart := false, narrowed := true }
def LinearProofsUptoSaid : Prop := linearProofsUptoRow.holds Tryz.pinned (OpenSpec.upto linearProofsSpec)

/-- 'tyreworkslaw02.LinearMaximizes', WHERE WHAT IT READS IS OF BULK AT MOST 1048576: true; the input reads as it did. -/
def linearMaximizesUptoRow : OpenClaim := { program := "ytceoncclknebbaagreat", sum := "fb3d1e40ece4f24edea2d1bfa44707ab4b5553d8ff8b7063587da82298a659e0", func := "tyreworks/tyreworkslaw02.LinearMaximizes", spec := "linearMaximizes", inPlace := ["math/bits.Add64", "math/bits.Sub64", "internal/abi.NoEscape", "internal/bytealg.MakeNoZero", "internal/bytealg.IndexByteString", "internal/bytealg.IndexString"], unfollowed := true, recurses := true, named := ["math/bits.divideError", "math/bits.overflowError", "internal/bytealg.MaxLen"], apart := false, narrowed := true }
def LinearMaximizesUptoSaid : Prop := linearMaximizesUptoRow.holds Tryz.pinned (OpenSpec.upto linearMaximizesSpec)

/-- 'tyreworkslaw02.LinearWithin', WHERE WHAT IT READS IS OF BULK AT MOST 1048576: true; the input reads as it did. -/
def linearWithinUptoRow : OpenClaim := { program := "ytceoncclknebbaagreat", sum := "fb3d1e40ece4f24edea2d1bfa44707ab4b5553d8ff8b7063587da82298a659e0", func := "tyreworks/tyreworkslaw02.LinearWithin", spec := "linearWithin", inPlace := ["math/bits.Add64", "math/bits.Sub64", "internal/abi.NoEscape", "internal/bytealg.MakeNoZero", "internal/bytealg.IndexByteString", "internal/bytealg.IndexString"], unfollowed := true, recurses := true, named := ["math/bits.divideError", "math/bits.overflowError", "internal/bytealg.MaxLen"], apart := false, narrowed := true }
def LinearWithinUptoSaid : Prop := linearWithinUptoRow.holds Tryz.pinned (OpenSpec.upto linearWithinSpec)

end Rows
end Go.Proofs.YtceoncclknebbaaGreat
