/-
  No cell of these rows narrows 'for every input' (looked for: loops, veiled, ifaces, maps, wideKeys, modest, calm, conditions, laid).
  DERIVED. THE GIVEN ROWS OF THIS SEAT. 3 by the template 'for every input the law returns true; each argument reads behind the call as it read before'; 0 by the template 'total and deterministic' (their statements: YtggdgpplccamkaaGreatTotals.lean).
  GIVEN WITH THE SEED: the statements are not yours to turn. If you find one false, say at which input.
  Laid BY PROGRAM, IN A SANDBOX (cutbox-rows.mjs): the forced cells as the released guide's own fill.sh prints them over the translation 9df90acd30b8e406… (all of the seat's roots in one cut). By AI agents, Wed Nov 11 2026. No macro, syntax, notation, axiom, sorry.
-/
import Derived.Test.YtggdgpplccamkaaGreatChecked
import GoSem.Claim
import GoSem.ClaimJoined
import GoSem.ClaimMapViews
import Derived.JoinedTies
import Derived.KernelRfl
namespace Go.Proofs.YtggdgpplccamkaaGreat
/- THE CELL 'sum', in the pinned program and in every row, IS THE sha256 OF THE DUMP (.gsa) THAT YtggdgpplccamkaaGreatProg.lean LOADS. Nothing in Lean hashes anything: it is a label: what it is worth is what the hold of that sum in a sandbox is worth. -/
noncomputable def Tryz.pinned : Pinned := { name := "ytggdgpplccamkaagreat", sum := "9df90acd30b8e4061f29bd566216fd8f7f352a577f2201432de2e867150e96ac", checked := Tryz.checked }
namespace Rows
def none {H : Type} : Left H := { results := [], args := [] }

/-- 'tyreworkslaw04.RubberSolves': WHATEVER THE INPUT: true; the input reads as it did. -/
def rubberSolvesSpec : ChangeSpec := { name := "rubberSolves", fn := fun _ => fun
  | [d1, d2] => { results := [.lit (.bool true)], args := [d1, d2] }
  | _ => none }
def rubberSolvesRow : OpenClaim := { program := "ytggdgpplccamkaagreat", sum := "9df90acd30b8e4061f29bd566216fd8f7f352a577f2201432de2e867150e96ac", func := "tyreworks/tyreworkslaw04.RubberSolves", spec := "rubberSolves", inPlace := ["math/bits.Add64", "math/bits.Sub64", "math.Float64bits", "math.Float64frombits", "internal/abi.NoEscape", "internal/bytealg.MakeNoZero"], unfollowed := true, recurses := true, named := ["math/bits.divideError", "math/bits.overflowError"], apart := false }
def RubberSolvesSaid : Prop := rubberSolvesRow.holds Tryz.pinned (OpenSpec.ofChange rubberSolvesSpec)

/-- ITS FALSE NEIGHBOUR: 'it returns false'. Refute it at one input. -/
def rubberSolvesWrong : ChangeSpec := { name := "rubberSolves", fn := fun _ => fun
  | [d1, d2] => { results := [.lit (.bool false)], args := [d1, d2] }
  | _ => none }
def RubberSolvesWrongFalsely : Prop := rubberSolvesRow.holds Tryz.pinned (OpenSpec.ofChange rubberSolvesWrong)

/-- 'tyreworkslaw04.RubberShifts': WHATEVER THE INPUT: true; the input reads as it did. -/
def rubberShiftsSpec : ChangeSpec := { name := "rubberShifts", fn := fun _ => fun
  | [d1, d2, d3, d4] => { results := [.lit (.bool true)], args := [d1, d2, d3, d4] }
  | _ => none }
def rubberShiftsRow : OpenClaim := { program := "ytggdgpplccamkaagreat", sum := "9df90acd30b8e4061f29bd566216fd8f7f352a577f2201432de2e867150e96ac", func := "tyreworks/tyreworkslaw04.RubberShifts", spec := "rubberShifts", inPlace := ["math/bits.Add64", "math/bits.Sub64", "math.Float64bits", "math.Float64frombits", "internal/abi.NoEscape", "internal/bytealg.MakeNoZero"], unfollowed := true, recurses := true, named := ["math/bits.divideError", "math/bits.overflowError"], apart := false }
def RubberShiftsSaid : Prop := rubberShiftsRow.holds Tryz.pinned (OpenSpec.ofChange rubberShiftsSpec)

/-- ITS FALSE NEIGHBOUR: 'it returns false'. Refute it at one input. -/
def rubberShiftsWrong : ChangeSpec := { name := "rubberShifts", fn := fun _ => fun
  | [d1, d2, d3, d4] => { results := [.lit (.bool false)], args := [d1, d2, d3, d4] }
  | _ => none }
def RubberShiftsWrongFalsely : Prop := rubberShiftsRow.holds Tryz.pinned (OpenSpec.ofChange rubberShiftsWrong)

/-- 'tyreworkslaw04.RubberMasters': WHATEVER THE INPUT: true; the input reads as it did. -/
def rubberMastersSpec : ChangeSpec := { name := "rubberMasters", fn := fun _ => fun
  | [d1, d2, d3] => { results := [.lit (.bool true)], args := [d1, d2, d3] }
  | _ => none }
def rubberMastersRow : OpenClaim := { program := "ytggdgpplccamkaagreat", sum := "9df90acd30b8e4061f29bd566216fd8f7f352a577f2201432de2e867150e96ac", func := "tyreworks/tyreworkslaw04.RubberMasters", spec := "rubberMasters", inPlace := ["math/bits.Add64", "math/bits.Sub64", "math.Float64bits", "math.Float64frombits", "internal/abi.NoEscape", "internal/bytealg.MakeNoZero"], unfollowed := true, recurses := true, named := ["math/bits.divideError", "math/bits.overflowError"], apart := false }
def RubberMastersSaid : Prop := rubberMastersRow.holds Tryz.pinned (OpenSpec.ofChange rubberMastersSpec)

/-- ITS FALSE NEIGHBOUR: 'it returns false'. Refute it at one input. -/
def rubberMastersWrong : ChangeSpec := { name := "rubberMasters", fn := fun _ => fun
  | [d1, d2, d3] => { results := [.lit (.bool false)], args := [d1, d2, d3] }
  | _ => none }
def RubberMastersWrongFalsely : Prop := rubberMastersRow.holds Tryz.pinned (OpenSpec.ofChange rubberMastersWrong)

/- THE SECOND FORM. 'bulk': how many values and letters a reading holds, each counted each time it is reached (what is shared counts as often as it is met; a slice's spare places count too). A statement '..UptoSaid' is the law's where the arguments, and the package variables that the reading takes, are together of bulk at most 1048576: NARROWER than '..Said'. Prove '..Said' where nothing that the law and all that it calls make is longer than what came in: it says more and counts as full. Else prove '..UptoSaid'. A law counts once. -/
mutual
def uptoBulk {H : Type} : DataW H → Nat
  | .lit (.string bytes) => bytes.length + 1
  | .lit _ => 1
  | .nil => 1
  | .ptr d => uptoBulk d + 1
  | .slice elems spare => uptoBulkAll elems + uptoBulkAll spare + 1
  | .agg parts => uptoBulkAll parts + 1
  | .iface _ d => uptoBulk d + 1
  | .map entries => uptoBulkEntries entries + 1
  | .held _ => 1
def uptoBulkAll {H : Type} : List (DataW H) → Nat
  | [] => 0
  | d :: r => uptoBulk d + uptoBulkAll r
def uptoBulkEntries {H : Type} : List (Lit × DataW H) → Nat
  | [] => 0
  | x :: r => uptoBulkEntry x + uptoBulkEntries r
def uptoBulkEntry {H : Type} : Lit × DataW H → Nat
  | (.string bytes, d) => bytes.length + uptoBulk d + 1
  | (_, d) => uptoBulk d + 1
 end
def uptoSmall : (H : Type) → List (DataW H) → Bool := fun _ ds => decide (uptoBulkAll ds ≤ 1048576)
def OpenSpec.upto (s : _root_.Go.ChangeSpec) : _root_.Go.OpenSpec := { _root_.Go.OpenSpec.ofChange s with cond := some uptoSmall }

/-- 'tyreworkslaw04.RubberSolves', WHERE WHAT IT READS IS OF BULK AT MOST 1048576: true; the input reads as it did. -/
def rubberSolvesUptoRow : OpenClaim := { program := "ytggdgpplccamkaagreat", sum := "9df90acd30b8e4061f29bd566216fd8f7f352a577f2201432de2e867150e96ac", func := "tyreworks/tyreworkslaw04.RubberSolves", spec := "rubberSolves", inPlace := ["math/bits.Add64", "math/bits.Sub64", "math.Float64bits", "math.Float64frombits", "internal/abi.NoEscape", "internal/bytealg.MakeNoZero"], unfollowed := true, recurses := true, named := ["math/bits.divideError", "math/bits.overflowError"], apart := false, narrowed := true }
def RubberSolvesUptoSaid : Prop := rubberSolvesUptoRow.holds Tryz.pinned (OpenSpec.upto rubberSolvesSpec)

/-- 'tyreworkslaw04.RubberShifts', WHERE WHAT IT READS IS OF BULK AT MOST 1048576: true; the input reads as it did. -/
def rubberShiftsUptoRow : OpenClaim := { program := "ytggdgpplccamkaagreat", sum := "9df90acd30b8e4061f29bd566216fd8f7f352a577f2201432de2e867150e96ac", func := "tyreworks/tyreworkslaw04.RubberShifts", spec := "rubberShifts", inPlace := ["math/bits.Add64", "math/bits.Sub64", "math.Float64bits", "math.Float64frombits", "internal/abi.NoEscape", "internal/bytealg.MakeNoZero"], unfollowed := true, recurses := true, named := ["math/bits.divideError", "math/bits.overflowError"], apart := false, narrowed := true }
def RubberShiftsUptoSaid : Prop := rubberShiftsUptoRow.holds Tryz.pinned (OpenSpec.upto rubberShiftsSpec)

/-- 'tyreworkslaw04.RubberMasters', WHERE WHAT IT READS IS OF BULK AT MOST 1048576: true; the input reads as it did. -/
def rubberMastersUptoRow : OpenClaim := { program := "ytggdgpplccamkaagreat", sum := "9df90acd30b8e4061f29bd566216fd8f7f352a577f2201432de2e867150e96ac", func := "tyreworks/tyreworkslaw04.RubberMasters", spec := "rubberMasters", inPlace := ["math/bits.Add64", "math/bits.Sub64", "math.Float64bits", "math.Float64frombits", "internal/abi.NoEscape", "internal/bytealg.MakeNoZero"], unfollowed := true, recurses := true, named := ["math/bits.divideError", "math/bits.overflowError"], apart := false, narrowed := true }
def RubberMastersUptoSaid : Prop := rubberMastersUptoRow.holds Tryz.pinned (OpenSpec.upto rubberMastersSpec)

end Rows
end Go.Proofs.YtggdgpplccamkaaGreat
