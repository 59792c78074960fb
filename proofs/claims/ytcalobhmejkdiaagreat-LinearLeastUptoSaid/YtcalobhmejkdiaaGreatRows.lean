/-
  No cell of these rows narrows 'for every input' (looked for: loops, veiled, ifaces, maps, wideKeys, modest, calm, conditions, laid).
  DERIVED. THE GIVEN ROWS OF THIS SEAT. 4 by the template 'for every input the law returns true; each argument reads behind the call as it read before'; 0 by the template 'total and deterministic' (their statements: YtcalobhmejkdiaaGreatTotals.lean).
  GIVEN WITH THE SEED: the statements are not yours to turn. If you find one false, say at which input.
  Laid BY PROGRAM, IN A SANDBOX (cutbox-rows.mjs): the forced cells as the released guide's own fill.sh prints them over the translation db9ee83b973b0b89… (all of the seat's roots in one cut). By AI agents, Wed Nov 11 2026. No macro, syntax, notation, axiom, sorry.
-/
import Derived.Test.YtcalobhmejkdiaaGreatChecked
import GoSem.Claim
import GoSem.ClaimJoined
import GoSem.ClaimMapViews
import Derived.JoinedTies
import Derived.KernelRfl
namespace Go.Proofs.YtcalobhmejkdiaaGreat
/- THE CELL 'sum', in the pinned program and in every row, IS THE sha256 OF THE DUMP (.gsa) THAT YtcalobhmejkdiaaGreatProg.lean LOADS. Nothing in Lean hashes anything: it is a label: what it is worth is what the hold of that sum in a sandbox is worth. -/
noncomputable def Tryz.pinned : Pinned := { name := "ytcalobhmejkdiaagreat", sum := "db9ee83b973b0b89cc7f4fe54305da2d713b69b44f3808d0cc590ee654d8652a", checked := Tryz.checked }
namespace Rows
def none {H : Type} : Left H := { results := [], args := [] }

/-- 'tyreworkslaw02.LinearRanks': WHATEVER THE INPUT: true; the input reads as it did. -/
def linearRanksSpec : ChangeSpec := { name := "linearRanks", fn := fun _ => fun
  | [d1, d2] => { results := [.lit (.bool true)], args := [d1, d2] }
  | _ => none }
def linearRanksRow : OpenClaim := { program := "ytcalobhmejkdiaagreat", sum := "db9ee83b973b0b89cc7f4fe54305da2d713b69b44f3808d0cc590ee654d8652a", func := "tyreworks/tyreworkslaw02.LinearRanks", spec := "linearRanks", inPlace := ["math/bits.Add64", "math/bits.Sub64", "internal/abi.NoEscape", "internal/bytealg.MakeNoZero"], unfollowed := true, recurses := true, named := ["math/bits.divideError", "math/bits.overflowError"], apart := false }
def LinearRanksSaid : Prop := linearRanksRow.holds Tryz.pinned (OpenSpec.ofChange linearRanksSpec)

/-- ITS FALSE NEIGHBOUR: 'it returns false'. Refute it at one input. -/
def linearRanksWrong : ChangeSpec := { name := "linearRanks", fn := fun _ => fun
  | [d1, d2] => { results := [.lit (.bool false)], args := [d1, d2] }
  | _ => none }
def LinearRanksWrongFalsely : Prop := linearRanksRow.holds Tryz.pinned (OpenSpec.ofChange linearRanksWrong)

/-- 'tyreworkslaw02.LinearEstimated': WHATEVER THE INPUT: true; the input reads as it did. -/
def linearEstimatedSpec : ChangeSpec := { name := "linearEstimated", fn := fun _ => fun
  | [d1, d2, d3, d4] => { results := [.lit (.bool true)], args := [d1, d2, d3, d4] }
  | _ => none }
def linearEstimatedRow : OpenClaim := { program := "ytcalobhmejkdiaagreat", sum := "db9ee83b973b0b89cc7f4fe54305da2d713b69b44f3808d0cc590ee654d8652a", func := "tyreworks/tyreworkslaw02.LinearEstimated", spec := "linearEstimated", inPlace := ["math/bits.Add64", "math/bits.Sub64", "internal/abi.NoEscape", "internal/bytealg.MakeNoZero"], unfollowed := true, recurses := true, named := ["math/bits.divideError", "math/bits.overflowError"], apart := false }
def LinearEstimatedSaid : Prop := linearEstimatedRow.holds Tryz.pinned (OpenSpec.ofChange linearEstimatedSpec)

/-- ITS FALSE NEIGHBOUR: 'it returns false'. Refute it at one input. -/
def linearEstimatedWrong : ChangeSpec := { name := "linearEstimated", fn := fun _ => fun
  | [d1, d2, d3, d4] => { results := [.lit (.bool false)], args := [d1, d2, d3, d4] }
  | _ => none }
def LinearEstimatedWrongFalsely : Prop := linearEstimatedRow.holds Tryz.pinned (OpenSpec.ofChange linearEstimatedWrong)

/-- 'tyreworkslaw02.LinearLeast': WHATEVER THE INPUT: true; the input reads as it did. -/
def linearLeastSpec : ChangeSpec := { name := "linearLeast", fn := fun _ => fun
  | [d1, d2, d3] => { results := [.lit (.bool true)], args := [d1, d2, d3] }
  | _ => none }
def linearLeastRow : OpenClaim := { program := "ytcalobhmejkdiaagreat", sum := "db9ee83b973b0b89cc7f4fe54305da2d713b69b44f3808d0cc590ee654d8652a", func := "tyreworks/tyreworkslaw02.LinearLeast", spec := "linearLeast", inPlace := ["math/bits.Add64", "math/bits.Sub64", "internal/abi.NoEscape", "internal/bytealg.MakeNoZero"], unfollowed := true, recurses := true, named := ["math/bits.divideError", "math/bits.overflowError"], apart := false }
def LinearLeastSaid : Prop := linearLeastRow.holds Tryz.pinned (OpenSpec.ofChange linearLeastSpec)

/-- ITS FALSE NEIGHBOUR: 'it returns false'. Refute it at one input. -/
def linearLeastWrong : ChangeSpec := { name := "linearLeast", fn := fun _ => fun
  | [d1, d2, d3] => { results := [.lit (.bool false)], args := [d1, d2, d3] }
  | _ => none }
def LinearLeastWrongFalsely : Prop := linearLeastRow.holds Tryz.pinned (OpenSpec.ofChange linearLeastWrong)

/-- 'tyreworkslaw02.LinearForms': WHATEVER THE INPUT: true; the input reads as it did. -/
def linearFormsSpec : ChangeSpec := { name := "linearForms", fn := fun _ => fun
  | [d1, d2] => { results := [.lit (.bool true)], args := [d1, d2] }
  | _ => none }
def linearFormsRow : OpenClaim := { program := "ytcalobhmejkdiaagreat", sum := "db9ee83b973b0b89cc7f4fe54305da2d713b69b44f3808d0cc590ee654d8652a", func := "tyreworks/tyreworkslaw02.LinearForms", spec := "linearForms", inPlace := ["math/bits.Add64", "math/bits.Sub64", "internal/abi.NoEscape", "internal/bytealg.MakeNoZero"], unfollowed := true, recurses := true, named := ["math/bits.divideError", "math/bits.overflowError"], apart := false }
def LinearFormsSaid : Prop := linearFormsRow.holds Tryz.pinned (OpenSpec.ofChange linearFormsSpec)

/-- ITS FALSE NEIGHBOUR: 'it returns false'. Refute it at one input. -/
def linearFormsWrong : ChangeSpec := { name := "linearForms", fn := fun _ => fun
  | [d1, d2] => { results := [.lit (.bool false)], args := [d1, d2] }
  | _ => none }
def LinearFormsWrongFalsely : Prop := linearFormsRow.holds Tryz.pinned (OpenSpec.ofChange linearFormsWrong)

/- THE SECOND FORM. 'bulk': how many values and letters a reading holds, each counted each time it is reached (what is shared counts as often as it is met; a slice's spare places count too). A statement '..UptoSaid' is the law's where the arguments, and the package variables that the reading takes, are together of bulk at most 1048576: NARROWER than '..Said'. Prove '..Said' where nothing that the law and all that it calls make is longer than what came in: it says more and counts as full. Else prove '..UptoSaid'. A law counts once. -/
mutual
def uptoBulk {H : Type} : DataW H → Nat
  | .lit (.string bytes) => bytes.length + 1
  | .lit _ => 1
  | .nil => 1
  | .ptr d => uptoBulk d + 1
  | .slice elems spare => uptoBulkAll elems + uptoBulkAll spare + 1
  | .agg parts => uptoBulkAll parts + 1
  | .iface _ d => uptoBulk d + 1
  | .map entries => uptoBulkEntries entries + 1
  | .held _ => 1
def uptoBulkAll {H : Type} : List (DataW H) → Nat
  | [] => 0
  | d :: r => uptoBulk d + uptoBulkAll r
def uptoBulkEntries {H : Type} : List (Lit × DataW H) → Nat
  | [] => 0
  | x :: r => uptoBulkEntry x + uptoBulkEntries r
def uptoBulkEntry {H : Type} : Lit × DataW H → Nat
  | (.string bytes, d) => bytes.length + uptoBulk d + 1
  | (_, d) => uptoBulk d + 1
 end
def uptoSmall : (H : Type) → List (DataW H) → Bool := fun _ ds => decide (uptoBulkAll ds ≤ 1048576)
def OpenSpec.upto (s : _root_.Go.ChangeSpec) : _root_.Go.OpenSpec := { _root_.Go.OpenSpec.ofChange s with cond := some uptoSmall }

/-- 'tyreworkslaw02.LinearRanks', WHERE WHAT IT READS IS OF BULK AT MOST 1048576: true; the input reads as it did. -/
def linearRanksUptoRow : OpenClaim := { program := "ytcalobhmejkdiaagreat", sum := "db9ee83b973b0b89cc7f4fe54305da2d713b69b44f3808d0cc590ee654d8652a", func := "tyreworks/tyreworkslaw02.LinearRanks", spec := "linearRanks", inPlace := ["math/bits.Add64", "math/bits.Sub64", "internal/abi.NoEscape", "internal/bytealg.MakeNoZero"], unfollowed := true, recurses := true, named := ["math/bits.divideError", "math/bits.overflowError"], apart := false, narrowed := true }
def LinearRanksUptoSaid : Prop := linearRanksUptoRow.holds Tryz.pinned (OpenSpec.upto linearRanksSpec)

/-- 'tyreworkslaw02.LinearEstimated', WHERE WHAT IT READS IS OF BULK AT MOST 1048576: true; the input reads as it did. -/
def linearEstimatedUptoRow : OpenClaim := { program := "ytcalobhmejkdiaagreat", sum := "db9ee83b973b0b89cc7f4fe54305da2d713b69b44f3808d0cc590ee654d8652a", func := "tyreworks/tyreworkslaw02.LinearEstimated", spec := "linearEstimated", inPlace := ["math/bits.Add64", "math/bits.Sub64", "internal/abi.NoEscape", "internal/bytealg.MakeNoZero"], unfollowed := true, recurses := true, named := ["math/bits.divideError", "math/bits.overflowError"], apart := false, narrowed := true }
def LinearEstimatedUptoSaid : Prop := linearEstimatedUptoRow.holds Tryz.pinned (OpenSpec.upto linearEstimatedSpec)

/-- 'tyreworkslaw02.LinearLeast', WHERE WHAT IT READS IS OF BULK AT MOST 1048576: true; the input reads as it did. -/
def linearLeastUptoRow : OpenClaim := { program := "ytcalobhmejkdiaagreat", sum := "db9ee83b973b0b89cc7f4fe54305da2d713b69b44f3808d0cc590ee654d8652a", func := "tyreworks/tyreworkslaw02.LinearLeast", spec := "linearLeast", inPlace := ["math/bits.Add64", "math/bits.Sub64", "internal/abi.NoEscape", "internal/bytealg.MakeNoZero"], unfollowed := true, recurses := true, named := ["math/bits.divideError", "math/bits.overflowError"], apart := false, narrowed := true }
def LinearLeastUptoSaid : Prop := linearLeastUptoRow.holds Tryz.pinned (OpenSpec.upto linearLeastSpec)

/-- 'tyreworkslaw02.LinearForms', WHERE WHAT IT READS IS OF BULK AT MOST 1048576: true; the input reads as it did. -/
def linearFormsUptoRow : OpenClaim := { program := "ytcalobhmejkdiaagreat", sum := "db9ee83b973b0b89cc7f4fe54305da2d713b69b44f3808d0cc590ee654d8652a", func := "tyreworks/tyreworkslaw02.LinearForms", spec := "linearForms", inPlace := ["math/bits.Add64", "math/bits.Sub64", "internal/abi.NoEscape", "internal/bytealg.MakeNoZero"], unfollowed := true, recurses := true, named := ["math/bits.divideError", "math/bits.overflowError"], apart := false, narrowed := true }
def LinearFormsUptoSaid : Prop := linearFormsUptoRow.holds Tryz.pinned (OpenSpec.upto linearFormsSpec)

end Rows
end Go.Proofs.YtcalobhmejkdiaaGreat
