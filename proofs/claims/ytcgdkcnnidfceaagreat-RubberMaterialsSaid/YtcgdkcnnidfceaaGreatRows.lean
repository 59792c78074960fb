/-
  No cell of these rows narrows 'for every input' (looked for: loops, veiled, ifaces, maps, wideKeys, modest, calm, conditions, laid).
  DERIVED. THE GIVEN ROWS OF THIS SEAT. 3 by the template 'for every input the law returns true; each argument reads behind the call as it read before'; 0 by the template 'total and deterministic' (their statements: YtcgdkcnnidfceaaGreatTotals.lean).
  GIVEN WITH THE SEED: the statements are not yours to turn. If you find one false, say at which input.
  Laid BY PROGRAM, IN A SANDBOX (cutbox-rows.mjs): the forced cells as the released guide's own fill.sh prints them over the translation ba0a6e5bb78cabe3… (all of the seat's roots in one cut). By AI agents, Wed Nov 11 2026. No macro, syntax, notation, axiom, sorry.
-/
import Derived.Test.YtcgdkcnnidfceaaGreatChecked
import GoSem.Claim
import GoSem.ClaimJoined
import GoSem.ClaimMapViews
import Derived.JoinedTies
import Derived.KernelRfl
namespace Go.Proofs.YtcgdkcnnidfceaaGreat
/- THE CELL 'sum', in the pinned program and in every row, IS THE sha256 OF THE DUMP (.gsa) THAT YtcgdkcnnidfceaaGreatProg.lean LOADS. Nothing in Lean hashes anything: it is a label: what it is worth is what the hold of that sum in a sandbox is worth. -/
noncomputable def Tryz.pinned : Pinned := { name := "ytcgdkcnnidfceaagreat", sum := "ba0a6e5bb78cabe3f1d2d599845f8eff9eae6fd34a9815e023e5e755feafad0a", checked := Tryz.checked }
namespace Rows
def none {H : Type} : Left H := { results := [], args := [] }

/-- 'tyreworkslaw04.RubberMaterials': WHATEVER THE INPUT: true; the input reads as it did. -/
def rubberMaterialsSpec : ChangeSpec := { name := "rubberMaterials", fn := fun _ => fun
  | [d1, d2, d3, d4] => { results := [.lit (.bool true)], args := [d1, d2, d3, d4] }
  | _ => none }
def rubberMaterialsRow : OpenClaim := { program := "ytcgdkcnnidfceaagreat", sum := "ba0a6e5bb78cabe3f1d2d599845f8eff9eae6fd34a9815e023e5e755feafad0a", func := "tyreworks/tyreworkslaw04.RubberMaterials", spec := "rubberMaterials", inPlace := ["math/bits.Add64", "math/bits.Sub64", "math.Float64bits", "math.Float64frombits", "internal/abi.NoEscape", "internal/bytealg.MakeNoZero"], unfollowed := true, recurses := true, named := ["math/bits.divideError", "math/bits.overflowError"], apart := false }
def RubberMaterialsSaid : Prop := rubberMaterialsRow.holds Tryz.pinned (OpenSpec.ofChange rubberMaterialsSpec)

/-- ITS FALSE NEIGHBOUR: 'it returns false'. Refute it at one input. -/
def rubberMaterialsWrong : ChangeSpec := { name := "rubberMaterials", fn := fun _ => fun
  | [d1, d2, d3, d4] => { results := [.lit (.bool false)], args := [d1, d2, d3, d4] }
  | _ => none }
def RubberMaterialsWrongFalsely : Prop := rubberMaterialsRow.holds Tryz.pinned (OpenSpec.ofChange rubberMaterialsWrong)

/-- 'tyreworkslaw04.RubberBest': WHATEVER THE INPUT: true; the input reads as it did. -/
def rubberBestSpec : ChangeSpec := { name := "rubberBest", fn := fun _ => fun
  | [d1, d2, d3, d4] => { results := [.lit (.bool true)], args := [d1, d2, d3, d4] }
  | _ => none }
def rubberBestRow : OpenClaim := { program := "ytcgdkcnnidfceaagreat", sum := "ba0a6e5bb78cabe3f1d2d599845f8eff9eae6fd34a9815e023e5e755feafad0a", func := "tyreworks/tyreworkslaw04.RubberBest", spec := "rubberBest", inPlace := ["math/bits.Add64", "math/bits.Sub64", "math.Float64bits", "math.Float64frombits", "internal/abi.NoEscape", "internal/bytealg.MakeNoZero"], unfollowed := true, recurses := true, named := ["math/bits.divideError", "math/bits.overflowError"], apart := false }
def RubberBestSaid : Prop := rubberBestRow.holds Tryz.pinned (OpenSpec.ofChange rubberBestSpec)

/-- ITS FALSE NEIGHBOUR: 'it returns false'. Refute it at one input. -/
def rubberBestWrong : ChangeSpec := { name := "rubberBest", fn := fun _ => fun
  | [d1, d2, d3, d4] => { results := [.lit (.bool false)], args := [d1, d2, d3, d4] }
  | _ => none }
def RubberBestWrongFalsely : Prop := rubberBestRow.holds Tryz.pinned (OpenSpec.ofChange rubberBestWrong)

/-- 'tyreworkslaw04.RubberIsotherms': WHATEVER THE INPUT: true; the input reads as it did. -/
def rubberIsothermsSpec : ChangeSpec := { name := "rubberIsotherms", fn := fun _ => fun
  | [d1, d2, d3, d4, d5] => { results := [.lit (.bool true)], args := [d1, d2, d3, d4, d5] }
  | _ => none }
def rubberIsothermsRow : OpenClaim := { program := "ytcgdkcnnidfceaagreat", sum := "ba0a6e5bb78cabe3f1d2d599845f8eff9eae6fd34a9815e023e5e755feafad0a", func := "tyreworks/tyreworkslaw04.RubberIsotherms", spec := "rubberIsotherms", inPlace := ["math/bits.Add64", "math/bits.Sub64", "math.Float64bits", "math.Float64frombits", "internal/abi.NoEscape", "internal/bytealg.MakeNoZero"], unfollowed := true, recurses := true, named := ["math/bits.divideError", "math/bits.overflowError"], apart := false }
def RubberIsothermsSaid : Prop := rubberIsothermsRow.holds Tryz.pinned (OpenSpec.ofChange rubberIsothermsSpec)

/-- ITS FALSE NEIGHBOUR: 'it returns false'. Refute it at one input. -/
def rubberIsothermsWrong : ChangeSpec := { name := "rubberIsotherms", fn := fun _ => fun
  | [d1, d2, d3, d4, d5] => { results := [.lit (.bool false)], args := [d1, d2, d3, d4, d5] }
  | _ => none }
def RubberIsothermsWrongFalsely : Prop := rubberIsothermsRow.holds Tryz.pinned (OpenSpec.ofChange rubberIsothermsWrong)

/- THE SECOND FORM. 'bulk': how many values and letters a reading holds, each counted each time it is reached (what is shared counts as often as it is met; a slice's spare places count too). A statement '..UptoSaid' is the law's where the arguments, and the package variables that the reading takes, are together of bulk at most 1048576: NARROWER than '..Said'. Prove '..Said' where nothing that the law and all that it calls make is longer than what came in: it says more and counts as full. Else prove '..UptoSaid'. A law counts once. -/
mutual
def uptoBulk {H : Type} : DataW H → Nat
  | .lit (.string bytes) => bytes.length + 1
  | .lit _ => 1
  | .nil => 1
  | .ptr d => uptoBulk d + 1
  | .slice elems spare => uptoBulkAll elems + uptoBulkAll spare + 1
  | .agg parts => uptoBulkAll parts + 1
  | .iface _ d => uptoBulk d + 1
  | .map entries => uptoBulkEntries entries + 1
  | .held _ => 1
def uptoBulkAll {H : Type} : List (DataW H) → Nat
  | [] => 0
  | d :: r => uptoBulk d + uptoBulkAll r
def uptoBulkEntries {H : Type} : List (Lit × DataW H) → Nat
  | [] => 0
  | x :: r => uptoBulkEntry x + uptoBulkEntries r
def uptoBulkEntry {H : Type} : Lit × DataW H → Nat
  | (.string bytes, d) => bytes.length + uptoBulk d + 1
  | (_, d) => uptoBulk d + 1
 end
def uptoSmall : (H : Type) → List (DataW H) → Bool := fun _ ds => decide (uptoBulkAll ds ≤ 1048576)
def OpenSpec.upto (s : _root_.Go.ChangeSpec) : _root_.Go.OpenSpec := { _root_.Go.OpenSpec.ofChange s with cond := some uptoSmall }

/-- 'tyreworkslaw04.RubberMaterials', WHERE WHAT IT READS IS OF BULK AT MOST 1048576: true; the input reads as it did. -/
def rubberMaterialsUptoRow : OpenClaim := { program := "ytcgdkcnnidfceaagreat", sum := "ba0a6e5bb78cabe3f1d2d599845f8eff9eae6fd34a9815e023e5e755feafad0a", func := "tyreworks/tyreworkslaw04.RubberMaterials", spec := "rubberMaterials", inPlace := ["math/bits.Add64", "math/bits.Sub64", "math.Float64bits", "math.Float64frombits", "internal/abi.NoEscape", "internal/bytealg.MakeNoZero"], unfollowed := true, recurses := true, named := ["math/bits.divideError", "math/bits.overflowError"], apart := false, narrowed := true }
def RubberMaterialsUptoSaid : Prop := rubberMaterialsUptoRow.holds Tryz.pinned (OpenSpec.upto rubberMaterialsSpec)

/-- 'tyreworkslaw04.RubberBest', WHERE WHAT IT READS IS OF BULK AT MOST 1048576: true; the input reads as it did. -/
def rubberBestUptoRow : OpenClaim := { program := "ytcgdkcnnidfceaagreat", sum := "ba0a6e5bb78cabe3f1d2d599845f8eff9eae6fd34a9815e023e5e755feafad0a", func := "tyreworks/tyreworkslaw04.RubberBest", spec := "rubberBest", inPlace := ["math/bits.Add64", "math/bits.Sub64", "math.Float64bits", "math.Float64frombits", "internal/abi.NoEscape", "internal/bytealg.MakeNoZero"], unfollowed := true, recurses := true, named := ["math/bits.divideError", "math/bits.overflowError"], apart := false, narrowed := true }
def RubberBestUptoSaid : Prop := rubberBestUptoRow.holds Tryz.pinned (OpenSpec.upto rubberBestSpec)

/-- 'tyreworkslaw04.RubberIsotherms', WHERE WHAT IT READS IS OF BULK AT MOST 1048576: true; the input reads as it did. -/
def rubberIsothermsUptoRow : OpenClaim := { program := "ytcgdkcnnidfceaagreat", sum := "ba0a6e5bb78cabe3f1d2d599845f8eff9eae6fd34a9815e023e5e755feafad0a", func := "tyreworks/tyreworkslaw04.RubberIsotherms", spec := "rubberIsotherms", inPlace := ["math/bits.Add64", "math/bits.Sub64", "math.Float64bits", "math.Float64frombits", "internal/abi.NoEscape", "internal/bytealg.MakeNoZero"], unfollowed := true, recurses := true, named := ["math/bits.divideError", "math/bits.overflowError"], apart := false, narrowed := true }
def RubberIsothermsUptoSaid : Prop := rubberIsothermsUptoRow.holds Tryz.pinned (OpenSpec.upto rubberIsothermsSpec)

end Rows
end Go.Proofs.YtcgdkcnnidfceaaGreat
