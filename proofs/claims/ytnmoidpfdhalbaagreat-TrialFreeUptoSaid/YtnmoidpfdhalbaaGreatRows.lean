/-
  No cell of these rows narrows 'for every input' (looked for: loops, veiled, ifaces, maps, wideKeys, modest, calm, conditions, laid).
  DERIVED. THE GIVEN ROWS OF THIS SEAT. 4 by the template 'for every input the law returns true; each argument reads behind the call as it read before'; 0 by the template 'total and deterministic' (their statements: YtnmoidpfdhalbaaGreatTotals.lean).
  GIVEN WITH THE SEED: the statements are not yours to turn. If you find one false, say at which input.
  Laid BY PROGRAM, IN A SANDBOX (cutbox-rows.mjs): the forced cells as the released guide's own fill.sh prints them over the translation 6f0daafb03d1abfe… (all of the seat's roots in one cut). By AI agents, Wed Nov 11 2026. No macro, syntax, notation, axiom, sorry.
-/
import Derived.Test.YtnmoidpfdhalbaaGreatChecked
import GoSem.Claim
import GoSem.ClaimJoined
import GoSem.ClaimMapViews
import Derived.JoinedTies
import Derived.KernelRfl
namespace Go.Proofs.YtnmoidpfdhalbaaGreat
/- THE CELL 'sum', in the pinned program and in every row, IS THE sha256 OF THE DUMP (.gsa) THAT YtnmoidpfdhalbaaGreatProg.lean LOADS. Nothing in Lean hashes anything: it is a label: what it is worth is what the hold of that sum in a sandbox is worth. -/
noncomputable def Tryz.pinned : Pinned := { name := "ytnmoidpfdhalbaagreat", sum := "6f0daafb03d1abfe3d2c6c7bc018d104de274a85eeb0e82eabbcca9d17157f9e", checked := Tryz.checked }
namespace Rows
def none {H : Type} : Left H := { results := [], args := [] }

/-- 'tyreworkslaw08.TrialAligns': WHATEVER THE INPUT: true; the input reads as it did. -/
def trialAlignsSpec : ChangeSpec := { name := "trialAligns", fn := fun _ => fun
  | [d1, d2, d3, d4] => { results := [.lit (.bool true)], args := [d1, d2, d3, d4] }
  | _ => none }
def trialAlignsRow : OpenClaim := { program := "ytnmoidpfdhalbaagreat", sum := "6f0daafb03d1abfe3d2c6c7bc018d104de274a85eeb0e82eabbcca9d17157f9e", func := "tyreworks/tyreworkslaw08.TrialAligns", spec := "trialAligns", inPlace := ["math/bits.Add64", "math/bits.Sub64", "internal/abi.NoEscape", "internal/bytealg.MakeNoZero"], unfollowed := true, recurses := true, named := ["math/bits.divideError", "math/bits.overflowError"], apart := false }
def TrialAlignsSaid : Prop := trialAlignsRow.holds Tryz.pinned (OpenSpec.ofChange trialAlignsSpec)

/-- ITS FALSE NEIGHBOUR: 'it returns false'. Refute it at one input. -/
def trialAlignsWrong : ChangeSpec := { name := "trialAligns", fn := fun _ => fun
  | [d1, d2, d3, d4] => { results := [.lit (.bool false)], args := [d1, d2, d3, d4] }
  | _ => none }
def TrialAlignsWrongFalsely : Prop := trialAlignsRow.holds Tryz.pinned (OpenSpec.ofChange trialAlignsWrong)

/-- 'tyreworkslaw08.TrialRotates': WHATEVER THE INPUT: true; the input reads as it did. -/
def trialRotatesSpec : ChangeSpec := { name := "trialRotates", fn := fun _ => fun
  | [d1, d2, d3] => { results := [.lit (.bool true)], args := [d1, d2, d3] }
  | _ => none }
def trialRotatesRow : OpenClaim := { program := "ytnmoidpfdhalbaagreat", sum := "6f0daafb03d1abfe3d2c6c7bc018d104de274a85eeb0e82eabbcca9d17157f9e", func := "tyreworks/tyreworkslaw08.TrialRotates", spec := "trialRotates", inPlace := ["math/bits.Add64", "math/bits.Sub64", "internal/abi.NoEscape", "internal/bytealg.MakeNoZero"], unfollowed := true, recurses := true, named := ["math/bits.divideError", "math/bits.overflowError"], apart := false }
def TrialRotatesSaid : Prop := trialRotatesRow.holds Tryz.pinned (OpenSpec.ofChange trialRotatesSpec)

/-- ITS FALSE NEIGHBOUR: 'it returns false'. Refute it at one input. -/
def trialRotatesWrong : ChangeSpec := { name := "trialRotates", fn := fun _ => fun
  | [d1, d2, d3] => { results := [.lit (.bool false)], args := [d1, d2, d3] }
  | _ => none }
def TrialRotatesWrongFalsely : Prop := trialRotatesRow.holds Tryz.pinned (OpenSpec.ofChange trialRotatesWrong)

/-- 'tyreworkslaw08.TrialDesigns': WHATEVER THE INPUT: true; the input reads as it did. -/
def trialDesignsSpec : ChangeSpec := { name := "trialDesigns", fn := fun _ => fun
  | [d1, d2, d3, d4] => { results := [.lit (.bool true)], args := [d1, d2, d3, d4] }
  | _ => none }
def trialDesignsRow : OpenClaim := { program := "ytnmoidpfdhalbaagreat", sum := "6f0daafb03d1abfe3d2c6c7bc018d104de274a85eeb0e82eabbcca9d17157f9e", func := "tyreworks/tyreworkslaw08.TrialDesigns", spec := "trialDesigns", inPlace := ["math/bits.Add64", "math/bits.Sub64", "internal/abi.NoEscape", "internal/bytealg.MakeNoZero"], unfollowed := true, recurses := true, named := ["math/bits.divideError", "math/bits.overflowError"], apart := false }
def TrialDesignsSaid : Prop := trialDesignsRow.holds Tryz.pinned (OpenSpec.ofChange trialDesignsSpec)

/-- ITS FALSE NEIGHBOUR: 'it returns false'. Refute it at one input. -/
def trialDesignsWrong : ChangeSpec := { name := "trialDesigns", fn := fun _ => fun
  | [d1, d2, d3, d4] => { results := [.lit (.bool false)], args := [d1, d2, d3, d4] }
  | _ => none }
def TrialDesignsWrongFalsely : Prop := trialDesignsRow.holds Tryz.pinned (OpenSpec.ofChange trialDesignsWrong)

/-- 'tyreworkslaw08.TrialFree': WHATEVER THE INPUT: true; the input reads as it did. -/
def trialFreeSpec : ChangeSpec := { name := "trialFree", fn := fun _ => fun
  | [d1, d2, d3, d4, d5] => { results := [.lit (.bool true)], args := [d1, d2, d3, d4, d5] }
  | _ => none }
def trialFreeRow : OpenClaim := { program := "ytnmoidpfdhalbaagreat", sum := "6f0daafb03d1abfe3d2c6c7bc018d104de274a85eeb0e82eabbcca9d17157f9e", func := "tyreworks/tyreworkslaw08.TrialFree", spec := "trialFree", inPlace := ["math/bits.Add64", "math/bits.Sub64", "internal/abi.NoEscape", "internal/bytealg.MakeNoZero"], unfollowed := true, recurses := true, named := ["math/bits.divideError", "math/bits.overflowError"], apart := false }
def TrialFreeSaid : Prop := trialFreeRow.holds Tryz.pinned (OpenSpec.ofChange trialFreeSpec)

/-- ITS FALSE NEIGHBOUR: 'it returns false'. Refute it at one input. -/
def trialFreeWrong : ChangeSpec := { name := "trialFree", fn := fun _ => fun
  | [d1, d2, d3, d4, d5] => { results := [.lit (.bool false)], args := [d1, d2, d3, d4, d5] }
  | _ => none }
def TrialFreeWrongFalsely : Prop := trialFreeRow.holds Tryz.pinned (OpenSpec.ofChange trialFreeWrong)

/- THE SECOND FORM. 'bulk': how many values and letters a reading holds, each counted each time it is reached (what is shared counts as often as it is met; a slice's spare places count too). A statement '..UptoSaid' is the law's where the arguments, and the package variables that the reading takes, are together of bulk at most 1048576: NARROWER than '..Said'. Prove '..Said' where nothing that the law and all that it calls make is longer than what came in: it says more and counts as full. Else prove '..UptoSaid'. A law counts once. -/
mutual
def uptoBulk {H : Type} : DataW H → Nat
  | .lit (.string bytes) => bytes.length + 1
  | .lit _ => 1
  | .nil => 1
  | .ptr d => uptoBulk d + 1
  | .slice elems spare => uptoBulkAll elems + uptoBulkAll spare + 1
  | .agg parts => uptoBulkAll parts + 1
  | .iface _ d => uptoBulk d + 1
  | .map entries => uptoBulkEntries entries + 1
  | .held _ => 1
def uptoBulkAll {H : Type} : List (DataW H) → Nat
  | [] => 0
  | d :: r => uptoBulk d + uptoBulkAll r
def uptoBulkEntries {H : Type} : List (Lit × DataW H) → Nat
  | [] => 0
  | x :: r => uptoBulkEntry x + uptoBulkEntries r
def uptoBulkEntry {H : Type} : Lit × DataW H → Nat
  | (.string bytes, d) => bytes.length + uptoBulk d + 1
  | (_, d) => uptoBulk d + 1
 end
def uptoSmall : (H : Type) → List (DataW H) → Bool := fun _ ds => decide (uptoBulkAll ds ≤ 1048576)
def OpenSpec.upto (s : _root_.Go.ChangeSpec) : _root_.Go.OpenSpec := { _root_.Go.OpenSpec.ofChange s with cond := some uptoSmall }

/-- 'tyreworkslaw08.TrialAligns', WHERE WHAT IT READS IS OF BULK AT MOST 1048576: true; the input reads as it did. -/
def trialAlignsUptoRow : OpenClaim := { program := "ytnmoidpfdhalbaagreat", sum := "6f0daafb03d1abfe3d2c6c7bc018d104de274a85eeb0e82eabbcca9d17157f9e", func := "tyreworks/tyreworkslaw08.TrialAligns", spec := "trialAligns", inPlace := ["math/bits.Add64", "math/bits.Sub64", "internal/abi.NoEscape", "internal/bytealg.MakeNoZero"], unfollowed := true, recurses := true, named := ["math/bits.divideError", "math/bits.overflowError"], apart := false, narrowed := true }
def TrialAlignsUptoSaid : Prop := trialAlignsUptoRow.holds Tryz.pinned (OpenSpec.upto trialAlignsSpec)

/-- 'tyreworkslaw08.TrialRotates', WHERE WHAT IT READS IS OF BULK AT MOST 1048576: true; the input reads as it did. -/
def trialRotatesUptoRow : OpenClaim := { program := "ytnmoidpfdhalbaagreat", sum := "6f0daafb03d1abfe3d2c6c7bc018d104de274a85eeb0e82eabbcca9d17157f9e", func := "tyreworks/tyreworkslaw08.TrialRotates", spec := "trialRotates", inPlace := ["math/bits.Add64", "math/bits.Sub64", "internal/abi.NoEscape", "internal/bytealg.MakeNoZero"], unfollowed := true, recurses := true, named := ["math/bits.divideError", "math/bits.overflowError"], apart := false, narrowed := true }
def TrialRotatesUptoSaid : Prop := trialRotatesUptoRow.holds Tryz.pinned (OpenSpec.upto trialRotatesSpec)

/-- 'tyreworkslaw08.TrialDesigns', WHERE WHAT IT READS IS OF BULK AT MOST 1048576: true; the input reads as it did. -/
def trialDesignsUptoRow : OpenClaim := { program := "ytnmoidpfdhalbaagreat", sum := "6f0daafb03d1abfe3d2c6c7bc018d104de274a85eeb0e82eabbcca9d17157f9e", func := "tyreworks/tyreworkslaw08.TrialDesigns", spec := "trialDesigns", inPlace := ["math/bits.Add64", "math/bits.Sub64", "internal/abi.NoEscape", "internal/bytealg.MakeNoZero"], unfollowed := true, recurses := true, named := ["math/bits.divideError", "math/bits.overflowError"], apart := false, narrowed := true }
def TrialDesignsUptoSaid : Prop := trialDesignsUptoRow.holds Tryz.pinned (OpenSpec.upto trialDesignsSpec)

/-- 'tyreworkslaw08.TrialFree', WHERE WHAT IT READS IS OF BULK AT MOST 1048576: true; the input reads as it did. -/
def trialFreeUptoRow : OpenClaim := { program := "ytnmoidpfdhalbaagreat", sum := "6f0daafb03d1abfe3d2c6c7bc018d104de274a85eeb0e82eabbcca9d17157f9e", func := "tyreworks/tyreworkslaw08.TrialFree", spec := "trialFree", inPlace := ["math/bits.Add64", "math/bits.Sub64", "internal/abi.NoEscape", "internal/bytealg.MakeNoZero"], unfollowed := true, recurses := true, named := ["math/bits.divideError", "math/bits.overflowError"], apart := false, narrowed := true }
def TrialFreeUptoSaid : Prop := trialFreeUptoRow.holds Tryz.pinned (OpenSpec.upto trialFreeSpec)

end Rows
end Go.Proofs.YtnmoidpfdhalbaaGreat
