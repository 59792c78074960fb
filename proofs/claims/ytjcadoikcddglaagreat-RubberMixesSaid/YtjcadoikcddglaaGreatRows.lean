/-
  No cell of these rows narrows 'for every input' (looked for: loops, veiled, ifaces, maps, wideKeys, modest, calm, conditions, laid).
  DERIVED. THE GIVEN ROWS OF THIS SEAT. 2 by the template 'for every input the law returns true; each argument reads behind the call as it read before'; 0 by the template 'total and deterministic' (their statements: YtjcadoikcddglaaGreatTotals.lean).
  GIVEN WITH THE SEED: the statements are not yours to turn. If you find one false, say at which input.
  Laid BY PROGRAM, IN A SANDBOX (cutbox-rows.mjs): the forced cells as the released guide's own fill.sh prints them over the translation 6aca93cb49bbbb1c… (all of the seat's roots in one cut). By AI agents, Wed Nov 11 2026. No macro, syntax, notation, axiom, sorry.
-/
import Derived.Test.YtjcadoikcddglaaGreatChecked
import GoSem.Claim
import GoSem.ClaimJoined
import GoSem.ClaimMapViews
import Derived.JoinedTies
import Derived.KernelRfl
namespace Go.Proofs.YtjcadoikcddglaaGreat
/- THE CELL 'sum', in the pinned program and in every row, IS THE sha256 OF THE DUMP (.gsa) THAT YtjcadoikcddglaaGreatProg.lean LOADS. Nothing in Lean hashes anything: it is a label: what it is worth is what the hold of that sum in a sandbox is worth. -/
noncomputable def Tryz.pinned : Pinned := { name := "ytjcadoikcddglaagreat", sum := "6aca93cb49bbbb1c32bf99328bd2f975a89d8b8aec521fcf45caf4c71affab72", checked := Tryz.checked }
namespace Rows
def none {H : Type} : Left H := { results := [], args := [] }

/-- 'tyreworkslaw08.TrialKappas': WHATEVER THE INPUT: true; the input reads as it did. -/
def trialKappasSpec : ChangeSpec := { name := "trialKappas", fn := fun _ => fun
  | [d1, d2, d3, d4, d5] => { results := [.lit (.bool true)], args := [d1, d2, d3, d4, d5] }
  | _ => none }
def trialKappasRow : OpenClaim := { program := "ytjcadoikcddglaagreat", sum := "6aca93cb49bbbb1c32bf99328bd2f975a89d8b8aec521fcf45caf4c71affab72", func := "tyreworks/tyreworkslaw08.TrialKappas", spec := "trialKappas", inPlace := ["math/bits.Add64", "math/bits.Sub64", "internal/abi.NoEscape", "internal/bytealg.MakeNoZero"], unfollowed := true, recurses := true, named := ["math/bits.divideError", "math/bits.overflowError"], apart := false }
def TrialKappasSaid : Prop := trialKappasRow.holds Tryz.pinned (OpenSpec.ofChange trialKappasSpec)

/-- ITS FALSE NEIGHBOUR: 'it returns false'. Refute it at one input. -/
def trialKappasWrong : ChangeSpec := { name := "trialKappas", fn := fun _ => fun
  | [d1, d2, d3, d4, d5] => { results := [.lit (.bool false)], args := [d1, d2, d3, d4, d5] }
  | _ => none }
def TrialKappasWrongFalsely : Prop := trialKappasRow.holds Tryz.pinned (OpenSpec.ofChange trialKappasWrong)

/-- 'tyreworkslaw04.RubberMixes': WHATEVER THE INPUT: true; the input reads as it did. -/
def rubberMixesSpec : ChangeSpec := { name := "rubberMixes", fn := fun _ => fun
  | [d1, d2] => { results := [.lit (.bool true)], args := [d1, d2] }
  | _ => none }
def rubberMixesRow : OpenClaim := { program := "ytjcadoikcddglaagreat", sum := "6aca93cb49bbbb1c32bf99328bd2f975a89d8b8aec521fcf45caf4c71affab72", func := "tyreworks/tyreworkslaw04.RubberMixes", spec := "rubberMixes", inPlace := ["math/bits.Add64", "math/bits.Sub64", "math.Float64bits", "math.Float64frombits", "internal/abi.NoEscape", "internal/bytealg.MakeNoZero"], unfollowed := true, recurses := true, named := ["math/bits.divideError", "math/bits.overflowError"], apart := false }
def RubberMixesSaid : Prop := rubberMixesRow.holds Tryz.pinned (OpenSpec.ofChange rubberMixesSpec)

/-- ITS FALSE NEIGHBOUR: 'it returns false'. Refute it at one input. -/
def rubberMixesWrong : ChangeSpec := { name := "rubberMixes", fn := fun _ => fun
  | [d1, d2] => { results := [.lit (.bool false)], args := [d1, d2] }
  | _ => none }
def RubberMixesWrongFalsely : Prop := rubberMixesRow.holds Tryz.pinned (OpenSpec.ofChange rubberMixesWrong)

/- THE SECOND FORM. 'bulk': how many values and letters a reading holds, each counted each time it is reached (what is shared counts as often as it is met; a slice's spare places count too). A statement '..UptoSaid' is the law's where the arguments, and the package variables that the reading takes, are together of bulk at most 1048576: NARROWER than '..Said'. Prove '..Said' where nothing that the law and all that it calls make is longer than what came in: it says more and counts as full. Else prove '..UptoSaid'. A law counts once. -/
mutual
def uptoBulk {H : Type} : DataW H → Nat
  | .lit (.string bytes) => bytes.length + 1
  | .lit _ => 1
  | .nil => 1
  | .ptr d => uptoBulk d + 1
  | .slice elems spare => uptoBulkAll elems + uptoBulkAll spare + 1
  | .agg parts => uptoBulkAll parts + 1
  | .iface _ d => uptoBulk d + 1
  | .map entries => uptoBulkEntries entries + 1
  | .held _ => 1
def uptoBulkAll {H : Type} : List (DataW H) → Nat
  | [] => 0
  | d :: r => uptoBulk d + uptoBulkAll r
def uptoBulkEntries {H : Type} : List (Lit × DataW H) → Nat
  | [] => 0
  | x :: r => uptoBulkEntry x + uptoBulkEntries r
def uptoBulkEntry {H : Type} : Lit × DataW H → Nat
  | (.string bytes, d) => bytes.length + uptoBulk d + 1
  | (_, d) => uptoBulk d + 1
 end
def uptoSmall : (H : Type) → List (DataW H) → Bool := fun _ ds => decide (uptoBulkAll ds ≤ 1048576)
def OpenSpec.upto (s : _root_.Go.ChangeSpec) : _root_.Go.OpenSpec := { _root_.Go.OpenSpec.ofChange s with cond := some uptoSmall }

/-- 'tyreworkslaw08.TrialKappas', WHERE WHAT IT READS IS OF BULK AT MOST 1048576: true; the input reads as it did. -/
def trialKappasUptoRow : OpenClaim := { program := "ytjcadoikcddglaagreat", sum := "6aca93cb49bbbb1c32bf99328bd2f975a89d8b8aec521fcf45caf4c71affab72", func := "tyreworks/tyreworkslaw08.TrialKappas", spec := "trialKappas", inPlace := ["math/bits.Add64", "math/bits.Sub64", "internal/abi.NoEscape", "internal/bytealg.MakeNoZero"], unfollowed := true, recurses := true, named := ["math/bits.divideError", "math/bits.overflowError"], apart := false, narrowed := true }
def TrialKappasUptoSaid : Prop := trialKappasUptoRow.holds Tryz.pinned (OpenSpec.upto trialKappasSpec)

/-- 'tyreworkslaw04.RubberMixes', WHERE WHAT IT READS IS OF BULK AT MOST 1048576: true; the input reads as it did. -/
def rubberMixesUptoRow : OpenClaim := { program := "ytjcadoikcddglaagreat", sum := "6aca93cb49bbbb1c32bf99328bd2f975a89d8b8aec521fcf45caf4c71affab72", func := "tyreworks/tyreworkslaw04.RubberMixes", spec := "rubberMixes", inPlace := ["math/bits.Add64", "math/bits.Sub64", "math.Float64bits", "math.Float64frombits", "internal/abi.NoEscape", "internal/bytealg.MakeNoZero"], unfollowed := true, recurses := true, named := ["math/bits.divideError", "math/bits.overflowError"], apart := false, narrowed := true }
def RubberMixesUptoSaid : Prop := rubberMixesUptoRow.holds Tryz.pinned (OpenSpec.upto rubberMixesSpec)

end Rows
end Go.Proofs.YtjcadoikcddglaaGreat
