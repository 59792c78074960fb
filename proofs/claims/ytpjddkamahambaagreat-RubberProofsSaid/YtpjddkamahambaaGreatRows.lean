/-
  No cell of these rows narrows 'for every input' (looked for: loops, veiled, ifaces, maps, wideKeys, modest, calm, conditions, laid).
  DERIVED. THE GIVEN ROWS OF THIS SEAT. 4 by the template 'for every input the law returns true; each argument reads behind the call as it read before'; 0 by the template 'total and deterministic' (their statements: YtpjddkamahambaaGreatTotals.lean).
  GIVEN WITH THE SEED: the statements are not yours to turn. If you find one false, say at which input.
  Laid BY PROGRAM, IN A SANDBOX (cutbox-rows.mjs): the forced cells as the released guide's own fill.sh prints them over the translation 5d75b61f8c6b76f0… (all of the seat's roots in one cut). By AI agents, Wed Nov 11 2026. No macro, syntax, notation, axiom, sorry.
-/
import Derived.Test.YtpjddkamahambaaGreatChecked
import GoSem.Claim
import GoSem.ClaimJoined
import GoSem.ClaimMapViews
import Derived.JoinedTies
import Derived.KernelRfl
namespace Go.Proofs.YtpjddkamahambaaGreat
/- THE CELL 'sum', in the pinned program and in every row, IS THE sha256 OF THE DUMP (.gsa) THAT YtpjddkamahambaaGreatProg.lean LOADS. Nothing in Lean hashes anything: it is a label: what it is worth is what the hold of that sum in a sandbox is worth. -/
noncomputable def Tryz.pinned : Pinned := { name := "ytpjddkamahambaagreat", sum := "5d75b61f8c6b76f095c861bcf78a05bf37d4c5335089546e985a8ce3e0438f8e", checked := Tryz.checked }
namespace Rows
def none {H : Type} : Left H := { results := [], args := [] }

/-- 'tyreworkslaw04.RubberWeighings': WHATEVER THE INPUT: true; the input reads as it did. -/
def rubberWeighingsSpec : ChangeSpec := { name := "rubberWeighings", fn := fun _ => fun
  | [d1, d2, d3] => { results := [.lit (.bool true)], args := [d1, d2, d3] }
  | _ => none }
def rubberWeighingsRow : OpenClaim := { program := "ytpjddkamahambaagreat", sum := "5d75b61f8c6b76f095c861bcf78a05bf37d4c5335089546e985a8ce3e0438f8e", func := "tyreworks/tyreworkslaw04.RubberWeighings", spec := "rubberWeighings", inPlace := ["math/bits.Add64", "math/bits.Sub64", "math.Float64bits", "math.Float64frombits", "internal/abi.NoEscape", "internal/bytealg.MakeNoZero"], unfollowed := true, recurses := true, named := ["math/bits.divideError", "math/bits.overflowError"], apart := false }
def RubberWeighingsSaid : Prop := rubberWeighingsRow.holds Tryz.pinned (OpenSpec.ofChange rubberWeighingsSpec)

/-- ITS FALSE NEIGHBOUR: 'it returns false'. Refute it at one input. -/
def rubberWeighingsWrong : ChangeSpec := { name := "rubberWeighings", fn := fun _ => fun
  | [d1, d2, d3] => { results := [.lit (.bool false)], args := [d1, d2, d3] }
  | _ => none }
def RubberWeighingsWrongFalsely : Prop := rubberWeighingsRow.holds Tryz.pinned (OpenSpec.ofChange rubberWeighingsWrong)

/-- 'tyreworkslaw04.RubberRecipes': WHATEVER THE INPUT: true; the input reads as it did. -/
def rubberRecipesSpec : ChangeSpec := { name := "rubberRecipes", fn := fun _ => fun
  | [d1, d2, d3] => { results := [.lit (.bool true)], args := [d1, d2, d3] }
  | _ => none }
def rubberRecipesRow : OpenClaim := { program := "ytpjddkamahambaagreat", sum := "5d75b61f8c6b76f095c861bcf78a05bf37d4c5335089546e985a8ce3e0438f8e", func := "tyreworks/tyreworkslaw04.RubberRecipes", spec := "rubberRecipes", inPlace := ["math/bits.Add64", "math/bits.Sub64", "math.Float64bits", "math.Float64frombits", "internal/abi.NoEscape", "internal/bytealg.MakeNoZero"], unfollowed := true, recurses := true, named := ["math/bits.divideError", "math/bits.overflowError"], apart := false }
def RubberRecipesSaid : Prop := rubberRecipesRow.holds Tryz.pinned (OpenSpec.ofChange rubberRecipesSpec)

/-- ITS FALSE NEIGHBOUR: 'it returns false'. Refute it at one input. -/
def rubberRecipesWrong : ChangeSpec := { name := "rubberRecipes", fn := fun _ => fun
  | [d1, d2, d3] => { results := [.lit (.bool false)], args := [d1, d2, d3] }
  | _ => none }
def RubberRecipesWrongFalsely : Prop := rubberRecipesRow.holds Tryz.pinned (OpenSpec.ofChange rubberRecipesWrong)

/-- 'tyreworkslaw04.RubberProofs': WHATEVER THE INPUT: true; the input reads as it did. -/
def rubberProofsSpec : ChangeSpec := { name := "rubberProofs", fn := fun _ => fun
  | [d1, d2, d3, d4, d5] => { results := [.lit (.bool true)], args := [d1, d2, d3, d4, d5] }
  | _ => none }
def rubberProofsRow : OpenClaim := { program := "ytpjddkamahambaagreat", sum := "5d75b61f8c6b76f095c861bcf78a05bf37d4c5335089546e985a8ce3e0438f8e", func := "tyreworks/tyreworkslaw04.RubberProofs", spec := "rubberProofs", inPlace := ["math/bits.Add64", "math/bits.Sub64", "math.Float64bits", "math.Float64frombits", "internal/abi.NoEscape", "internal/bytealg.MakeNoZero"], unfollowed := true, recurses := true, named := ["math/bits.divideError", "math/bits.overflowError"], apart := false }
def RubberProofsSaid : Prop := rubberProofsRow.holds Tryz.pinned (OpenSpec.ofChange rubberProofsSpec)

/-- ITS FALSE NEIGHBOUR: 'it returns false'. Refute it at one input. -/
def rubberProofsWrong : ChangeSpec := { name := "rubberProofs", fn := fun _ => fun
  | [d1, d2, d3, d4, d5] => { results := [.lit (.bool false)], args := [d1, d2, d3, d4, d5] }
  | _ => none }
def RubberProofsWrongFalsely : Prop := rubberProofsRow.holds Tryz.pinned (OpenSpec.ofChange rubberProofsWrong)

/-- 'tyreworkslaw04.RubberScales': WHATEVER THE INPUT: true; the input reads as it did. -/
def rubberScalesSpec : ChangeSpec := { name := "rubberScales", fn := fun _ => fun
  | [d1, d2, d3] => { results := [.lit (.bool true)], args := [d1, d2, d3] }
  | _ => none }
def rubberScalesRow : OpenClaim := { program := "ytpjddkamahambaagreat", sum := "5d75b61f8c6b76f095c861bcf78a05bf37d4c5335089546e985a8ce3e0438f8e", func := "tyreworks/tyreworkslaw04.RubberScales", spec := "rubberScales", inPlace := ["math/bits.Add64", "math/bits.Sub64", "math.Float64bits", "math.Float64frombits", "internal/abi.NoEscape", "internal/bytealg.MakeNoZero"], unfollowed := true, recurses := true, named := ["math/bits.divideError", "math/bits.overflowError"], apart := false }
def RubberScalesSaid : Prop := rubberScalesRow.holds Tryz.pinned (OpenSpec.ofChange rubberScalesSpec)

/-- ITS FALSE NEIGHBOUR: 'it returns false'. Refute it at one input. -/
def rubberScalesWrong : ChangeSpec := { name := "rubberScales", fn := fun _ => fun
  | [d1, d2, d3] => { results := [.lit (.bool false)], args := [d1, d2, d3] }
  | _ => none }
def RubberScalesWrongFalsely : Prop := rubberScalesRow.holds Tryz.pinned (OpenSpec.ofChange rubberScalesWrong)

/- THE SECOND FORM. 'bulk': how many values and letters a reading holds, each counted each time it is reached (what is shared counts as often as it is met; a slice's spare places count too). A statement '..UptoSaid' is the law's where the arguments, and the package variables that the reading takes, are together of bulk at most 1048576: NARROWER than '..Said'. Prove '..Said' where nothing that the law and all that it calls make is longer than what came in: it says more and counts as full. Else prove '..UptoSaid'. A law counts once. -/
mutual
def uptoBulk {H : Type} : DataW H → Nat
  | .lit (.string bytes) => bytes.length + 1
  | .lit _ => 1
  | .nil => 1
  | .ptr d => uptoBulk d + 1
  | .slice elems spare => uptoBulkAll elems + uptoBulkAll spare + 1
  | .agg parts => uptoBulkAll parts + 1
  | .iface _ d => uptoBulk d + 1
  | .map entries => uptoBulkEntries entries + 1
  | .held _ => 1
def uptoBulkAll {H : Type} : List (DataW H) → Nat
  | [] => 0
  | d :: r => uptoBulk d + uptoBulkAll r
def uptoBulkEntries {H : Type} : List (Lit × DataW H) → Nat
  | [] => 0
  | x :: r => uptoBulkEntry x + uptoBulkEntries r
def uptoBulkEntry {H : Type} : Lit × DataW H → Nat
  | (.string bytes, d) => bytes.length + uptoBulk d + 1
  | (_, d) => uptoBulk d + 1
 end
def uptoSmall : (H : Type) → List (DataW H) → Bool := fun _ ds => decide (uptoBulkAll ds ≤ 1048576)
def OpenSpec.upto (s : _root_.Go.ChangeSpec) : _root_.Go.OpenSpec := { _root_.Go.OpenSpec.ofChange s with cond := some uptoSmall }

/-- 'tyreworkslaw04.RubberWeighings', WHERE WHAT IT READS IS OF BULK AT MOST 1048576: true; the input reads as it did. -/
def rubberWeighingsUptoRow : OpenClaim := { program := "ytpjddkamahambaagreat", sum := "5d75b61f8c6b76f095c861bcf78a05bf37d4c5335089546e985a8ce3e0438f8e", func := "tyreworks/tyreworkslaw04.RubberWeighings", spec := "rubberWeighings", inPlace := ["math/bits.Add64", "math/bits.Sub64", "math.Float64bits", "math.Float64frombits", "internal/abi.NoEscape", "internal/bytealg.MakeNoZero"], unfollowed := true, recurses := true, named := ["math/bits.divideError", "math/bits.overflowError"], apart := false, narrowed := true }
def RubberWeighingsUptoSaid : Prop := rubberWeighingsUptoRow.holds Tryz.pinned (OpenSpec.upto rubberWeighingsSpec)

/-- 'tyreworkslaw04.RubberRecipes', WHERE WHAT IT READS IS OF BULK AT MOST 1048576: true; the input reads as it did. -/
def rubberRecipesUptoRow : OpenClaim := { program := "ytpjddkamahambaagreat", sum := "5d75b61f8c6b76f095c861bcf78a05bf37d4c5335089546e985a8ce3e0438f8e", func := "tyreworks/tyreworkslaw04.RubberRecipes", spec := "rubberRecipes", inPlace := ["math/bits.Add64", "math/bits.Sub64", "math.Float64bits", "math.Float64frombits", "internal/abi.NoEscape", "internal/bytealg.MakeNoZero"], unfollowed := true, recurses := true, named := ["math/bits.divideError", "math/bits.overflowError"], apart := false, narrowed := true }
def RubberRecipesUptoSaid : Prop := rubberRecipesUptoRow.holds Tryz.pinned (OpenSpec.upto rubberRecipesSpec)

/-- 'tyreworkslaw04.RubberProofs', WHERE WHAT IT READS IS OF BULK AT MOST 1048576: true; the input reads as it did. -/
def rubberProofsUptoRow : OpenClaim := { program := "ytpjddkamahambaagreat", sum := "5d75b61f8c6b76f095c861bcf78a05bf37d4c5335089546e985a8ce3e0438f8e", func := "tyreworks/tyreworkslaw04.RubberProofs", spec := "rubberProofs", inPlace := ["math/bits.Add64", "math/bits.Sub64", "math.Float64bits", "math.Float64frombits", "internal/abi.NoEscape", "internal/bytealg.MakeNoZero"], unfollowed := true, recurses := true, named := ["math/bits.divideError", "math/bits.overflowError"], apart := false, narrowed := true }
def RubberProofsUptoSaid : Prop := rubberProofsUptoRow.holds Tryz.pinned (OpenSpec.upto rubberProofsSpec)

/-- 'tyreworkslaw04.RubberScales', WHERE WHAT IT READS IS OF BULK AT MOST 1048576: true; the input reads as it did. -/
def rubberScalesUptoRow : OpenClaim := { program := "ytpjddkamahambaagreat", sum := "5d75b61f8c6b76f095c861bcf78a05bf37d4c5335089546e985a8ce3e0438f8e", func := "tyreworks/tyreworkslaw04.RubberScales", spec := "rubberScales", inPlace := ["math/bits.Add64", "math/bits.Sub64", "math.Float64bits", "math.Float64frombits", "internal/abi.NoEscape", "internal/bytealg.MakeNoZero"], unfollowed := true, recurses := true, named := ["math/bits.divideError", "math/bits.overflowError"], apart := false, narrowed := true }
def RubberScalesUptoSaid : Prop := rubberScalesUptoRow.holds Tryz.pinned (OpenSpec.upto rubberScalesSpec)

end Rows
end Go.Proofs.YtpjddkamahambaaGreat
