/-
  No cell of these rows narrows 'for every input' (looked for: loops, veiled, ifaces, maps, wideKeys, modest, calm, conditions, laid).
  DERIVED. THE GIVEN ROWS OF THIS SEAT. 11 by the template 'for every input the law returns true; each argument reads behind the call as it read before'; 0 by the template 'total and deterministic' (their statements: YtmmnpljhffbjhaaGreatTotals.lean).
  GIVEN WITH THE SEED: the statements are not yours to turn. If you find one false, say at which input.
  Laid BY PROGRAM, IN A SANDBOX (cutbox-rows.mjs): the forced cells as the released guide's own fill.sh prints them over the translation 6db8ea2aebced7ec… (all of the seat's roots in one cut). By AI agents, Wed Nov 11 2026. No macro, syntax, notation, axiom, sorry.
-/
import Derived.Test.YtmmnpljhffbjhaaGreatChecked
import GoSem.Claim
import GoSem.ClaimJoined
import GoSem.ClaimMapViews
import Derived.JoinedTies
import Derived.KernelRfl
namespace Go.Proofs.YtmmnpljhffbjhaaGreat
/- THE CELL 'sum', in the pinned program and in every row, IS THE sha256 OF THE DUMP (.gsa) THAT YtmmnpljhffbjhaaGreatProg.lean LOADS. Nothing in Lean hashes anything: it is a label: what it is worth is what the hold of that sum in a sandbox is worth. -/
noncomputable def Tryz.pinned : Pinned := { name := "ytmmnpljhffbjhaagreat", sum := "6db8ea2aebced7ec1a25a4ff577b392d121bbfb0ec5b99dfdf1df5dd4819c5c7", checked := Tryz.checked }
namespace Rows
def none {H : Type} : Left H := { results := [], args := [] }

/-- 'tyreworkslaw08.TrialKappas': WHATEVER THE INPUT: true; the input reads as it did. -/
def trialKappasSpec : ChangeSpec := { name := "trialKappas", fn := fun _ => fun
  | [d1, d2, d3, d4, d5] => { results := [.lit (.bool true)], args := [d1, d2, d3, d4, d5] }
  | _ => none }
def trialKappasRow : OpenClaim := { program := "ytmmnpljhffbjhaagreat", sum := "6db8ea2aebced7ec1a25a4ff577b392d121bbfb0ec5b99dfdf1df5dd4819c5c7", func := "tyreworks/tyreworkslaw08.TrialKappas", spec := "trialKappas", inPlace := ["math/bits.Add64", "math/bits.Sub64", "internal/abi.NoEscape", "internal/bytealg.MakeNoZero"], unfollowed := true, recurses := true, named := ["math/bits.divideError", "math/bits.overflowError"], apart := false }
def TrialKappasSaid : Prop := trialKappasRow.holds Tryz.pinned (OpenSpec.ofChange trialKappasSpec)

/-- ITS FALSE NEIGHBOUR: 'it returns false'. Refute it at one input. -/
def trialKappasWrong : ChangeSpec := { name := "trialKappas", fn := fun _ => fun
  | [d1, d2, d3, d4, d5] => { results := [.lit (.bool false)], args := [d1, d2, d3, d4, d5] }
  | _ => none }
def TrialKappasWrongFalsely : Prop := trialKappasRow.holds Tryz.pinned (OpenSpec.ofChange trialKappasWrong)

/-- 'tyreworkslaw08.TrialReaders': WHATEVER THE INPUT: true; the input reads as it did. -/
def trialReadersSpec : ChangeSpec := { name := "trialReaders", fn := fun _ => fun
  | [d] => { results := [.lit (.bool true)], args := [d] }
  | _ => none }
def trialReadersRow : OpenClaim := { program := "ytmmnpljhffbjhaagreat", sum := "6db8ea2aebced7ec1a25a4ff577b392d121bbfb0ec5b99dfdf1df5dd4819c5c7", func := "tyreworks/tyreworkslaw08.TrialReaders", spec := "trialReaders", inPlace := ["math/bits.Add64", "math/bits.Sub64", "internal/abi.NoEscape", "internal/bytealg.MakeNoZero"], unfollowed := true, recurses := true, named := ["math/bits.divideError", "math/bits.overflowError"], apart := false }
def TrialReadersSaid : Prop := trialReadersRow.holds Tryz.pinned (OpenSpec.ofChange trialReadersSpec)

/-- ITS FALSE NEIGHBOUR: 'it returns false'. Refute it at one input. -/
def trialReadersWrong : ChangeSpec := { name := "trialReaders", fn := fun _ => fun
  | [d] => { results := [.lit (.bool false)], args := [d] }
  | _ => none }
def TrialReadersWrongFalsely : Prop := trialReadersRow.holds Tryz.pinned (OpenSpec.ofChange trialReadersWrong)

/-- 'tyreworkslaw08.TrialMethods': WHATEVER THE INPUT: true; the input reads as it did. -/
def trialMethodsSpec : ChangeSpec := { name := "trialMethods", fn := fun _ => fun
  | [d1, d2, d3, d4, d5] => { results := [.lit (.bool true)], args := [d1, d2, d3, d4, d5] }
  | _ => none }
def trialMethodsRow : OpenClaim := { program := "ytmmnpljhffbjhaagreat", sum := "6db8ea2aebced7ec1a25a4ff577b392d121bbfb0ec5b99dfdf1df5dd4819c5c7", func := "tyreworks/tyreworkslaw08.TrialMethods", spec := "trialMethods", inPlace := ["math/bits.Add64", "math/bits.Sub64", "internal/abi.NoEscape", "internal/bytealg.MakeNoZero"], unfollowed := true, recurses := true, named := ["math/bits.divideError", "math/bits.overflowError"], apart := false }
def TrialMethodsSaid : Prop := trialMethodsRow.holds Tryz.pinned (OpenSpec.ofChange trialMethodsSpec)

/-- ITS FALSE NEIGHBOUR: 'it returns false'. Refute it at one input. -/
def trialMethodsWrong : ChangeSpec := { name := "trialMethods", fn := fun _ => fun
  | [d1, d2, d3, d4, d5] => { results := [.lit (.bool false)], args := [d1, d2, d3, d4, d5] }
  | _ => none }
def TrialMethodsWrongFalsely : Prop := trialMethodsRow.holds Tryz.pinned (OpenSpec.ofChange trialMethodsWrong)

/-- 'tyreworkslaw08.TrialRolls': WHATEVER THE INPUT: true; the input reads as it did. -/
def trialRollsSpec : ChangeSpec := { name := "trialRolls", fn := fun _ => fun
  | [d1, d2, d3, d4] => { results := [.lit (.bool true)], args := [d1, d2, d3, d4] }
  | _ => none }
def trialRollsRow : OpenClaim := { program := "ytmmnpljhffbjhaagreat", sum := "6db8ea2aebced7ec1a25a4ff577b392d121bbfb0ec5b99dfdf1df5dd4819c5c7", func := "tyreworks/tyreworkslaw08.TrialRolls", spec := "trialRolls", inPlace := ["math/bits.Add64", "math/bits.Sub64", "internal/abi.NoEscape", "internal/bytealg.MakeNoZero"], unfollowed := true, recurses := true, named := ["math/bits.divideError", "math/bits.overflowError"], apart := false }
def TrialRollsSaid : Prop := trialRollsRow.holds Tryz.pinned (OpenSpec.ofChange trialRollsSpec)

/-- ITS FALSE NEIGHBOUR: 'it returns false'. Refute it at one input. -/
def trialRollsWrong : ChangeSpec := { name := "trialRolls", fn := fun _ => fun
  | [d1, d2, d3, d4] => { results := [.lit (.bool false)], args := [d1, d2, d3, d4] }
  | _ => none }
def TrialRollsWrongFalsely : Prop := trialRollsRow.holds Tryz.pinned (OpenSpec.ofChange trialRollsWrong)

/-- 'tyreworkslaw08.TrialBrakes': WHATEVER THE INPUT: true; the input reads as it did. -/
def trialBrakesSpec : ChangeSpec := { name := "trialBrakes", fn := fun _ => fun
  | [d] => { results := [.lit (.bool true)], args := [d] }
  | _ => none }
def trialBrakesRow : OpenClaim := { program := "ytmmnpljhffbjhaagreat", sum := "6db8ea2aebced7ec1a25a4ff577b392d121bbfb0ec5b99dfdf1df5dd4819c5c7", func := "tyreworks/tyreworkslaw08.TrialBrakes", spec := "trialBrakes", inPlace := ["math/bits.Add64", "math/bits.Sub64", "internal/abi.NoEscape", "internal/bytealg.MakeNoZero"], unfollowed := true, recurses := true, named := ["math/bits.divideError", "math/bits.overflowError"], apart := false }
def TrialBrakesSaid : Prop := trialBrakesRow.holds Tryz.pinned (OpenSpec.ofChange trialBrakesSpec)

/-- ITS FALSE NEIGHBOUR: 'it returns false'. Refute it at one input. -/
def trialBrakesWrong : ChangeSpec := { name := "trialBrakes", fn := fun _ => fun
  | [d] => { results := [.lit (.bool false)], args := [d] }
  | _ => none }
def TrialBrakesWrongFalsely : Prop := trialBrakesRow.holds Tryz.pinned (OpenSpec.ofChange trialBrakesWrong)

/-- 'tyreworkslaw08.TrialDrifts': WHATEVER THE INPUT: true; the input reads as it did. -/
def trialDriftsSpec : ChangeSpec := { name := "trialDrifts", fn := fun _ => fun
  | [d1, d2, d3, d4, d5] => { results := [.lit (.bool true)], args := [d1, d2, d3, d4, d5] }
  | _ => none }
def trialDriftsRow : OpenClaim := { program := "ytmmnpljhffbjhaagreat", sum := "6db8ea2aebced7ec1a25a4ff577b392d121bbfb0ec5b99dfdf1df5dd4819c5c7", func := "tyreworks/tyreworkslaw08.TrialDrifts", spec := "trialDrifts", inPlace := ["math/bits.Add64", "math/bits.Sub64", "internal/abi.NoEscape", "internal/bytealg.MakeNoZero"], unfollowed := true, recurses := true, named := ["math/bits.divideError", "math/bits.overflowError"], apart := false }
def TrialDriftsSaid : Prop := trialDriftsRow.holds Tryz.pinned (OpenSpec.ofChange trialDriftsSpec)

/-- ITS FALSE NEIGHBOUR: 'it returns false'. Refute it at one input. -/
def trialDriftsWrong : ChangeSpec := { name := "trialDrifts", fn := fun _ => fun
  | [d1, d2, d3, d4, d5] => { results := [.lit (.bool false)], args := [d1, d2, d3, d4, d5] }
  | _ => none }
def TrialDriftsWrongFalsely : Prop := trialDriftsRow.holds Tryz.pinned (OpenSpec.ofChange trialDriftsWrong)

/-- 'tyreworkslaw08.TrialLabels': WHATEVER THE INPUT: true; the input reads as it did. -/
def trialLabelsSpec : ChangeSpec := { name := "trialLabels", fn := fun _ => fun
  | [d1, d2, d3, d4, d5] => { results := [.lit (.bool true)], args := [d1, d2, d3, d4, d5] }
  | _ => none }
def trialLabelsRow : OpenClaim := { program := "ytmmnpljhffbjhaagreat", sum := "6db8ea2aebced7ec1a25a4ff577b392d121bbfb0ec5b99dfdf1df5dd4819c5c7", func := "tyreworks/tyreworkslaw08.TrialLabels", spec := "trialLabels", inPlace := ["math/bits.Add64", "math/bits.Sub64", "internal/abi.NoEscape", "internal/bytealg.MakeNoZero"], unfollowed := true, recurses := true, named := ["math/bits.divideError", "math/bits.overflowError"], apart := false }
def TrialLabelsSaid : Prop := trialLabelsRow.holds Tryz.pinned (OpenSpec.ofChange trialLabelsSpec)

/-- ITS FALSE NEIGHBOUR: 'it returns false'. Refute it at one input. -/
def trialLabelsWrong : ChangeSpec := { name := "trialLabels", fn := fun _ => fun
  | [d1, d2, d3, d4, d5] => { results := [.lit (.bool false)], args := [d1, d2, d3, d4, d5] }
  | _ => none }
def TrialLabelsWrongFalsely : Prop := trialLabelsRow.holds Tryz.pinned (OpenSpec.ofChange trialLabelsWrong)

/-- 'tyreworkslaw08.TrialKept': WHATEVER THE INPUT: true; the input reads as it did. -/
def trialKeptSpec : ChangeSpec := { name := "trialKept", fn := fun _ => fun
  | [d1, d2, d3, d4, d5, d6] => { results := [.lit (.bool true)], args := [d1, d2, d3, d4, d5, d6] }
  | _ => none }
def trialKeptRow : OpenClaim := { program := "ytmmnpljhffbjhaagreat", sum := "6db8ea2aebced7ec1a25a4ff577b392d121bbfb0ec5b99dfdf1df5dd4819c5c7", func := "tyreworks/tyreworkslaw08.TrialKept", spec := "trialKept", inPlace := ["math/bits.Add64", "math/bits.Sub64", "internal/abi.NoEscape", "internal/bytealg.MakeNoZero"], unfollowed := true, recurses := true, named := ["math/bits.divideError", "math/bits.overflowError"], apart := false }
def TrialKeptSaid : Prop := trialKeptRow.holds Tryz.pinned (OpenSpec.ofChange trialKeptSpec)

/-- ITS FALSE NEIGHBOUR: 'it returns false'. Refute it at one input. -/
def trialKeptWrong : ChangeSpec := { name := "trialKept", fn := fun _ => fun
  | [d1, d2, d3, d4, d5, d6] => { results := [.lit (.bool false)], args := [d1, d2, d3, d4, d5, d6] }
  | _ => none }
def TrialKeptWrongFalsely : Prop := trialKeptRow.holds Tryz.pinned (OpenSpec.ofChange trialKeptWrong)

/-- 'tyreworkslaw08.TrialStages': WHATEVER THE INPUT: true; the input reads as it did. -/
def trialStagesSpec : ChangeSpec := { name := "trialStages", fn := fun _ => fun
  | [d1, d2, d3, d4] => { results := [.lit (.bool true)], args := [d1, d2, d3, d4] }
  | _ => none }
def trialStagesRow : OpenClaim := { program := "ytmmnpljhffbjhaagreat", sum := "6db8ea2aebced7ec1a25a4ff577b392d121bbfb0ec5b99dfdf1df5dd4819c5c7", func := "tyreworks/tyreworkslaw08.TrialStages", spec := "trialStages", inPlace := ["math/bits.Add64", "math/bits.Sub64", "internal/abi.NoEscape", "internal/bytealg.MakeNoZero"], unfollowed := true, recurses := true, named := ["math/bits.divideError", "math/bits.overflowError"], apart := false }
def TrialStagesSaid : Prop := trialStagesRow.holds Tryz.pinned (OpenSpec.ofChange trialStagesSpec)

/-- ITS FALSE NEIGHBOUR: 'it returns false'. Refute it at one input. -/
def trialStagesWrong : ChangeSpec := { name := "trialStages", fn := fun _ => fun
  | [d1, d2, d3, d4] => { results := [.lit (.bool false)], args := [d1, d2, d3, d4] }
  | _ => none }
def TrialStagesWrongFalsely : Prop := trialStagesRow.holds Tryz.pinned (OpenSpec.ofChange trialStagesWrong)

/-- 'tyreworkslaw08.TrialJudges': WHATEVER THE INPUT: true; the input reads as it did. -/
def trialJudgesSpec : ChangeSpec := { name := "trialJudges", fn := fun _ => fun
  | [d1, d2, d3, d4] => { results := [.lit (.bool true)], args := [d1, d2, d3, d4] }
  | _ => none }
def trialJudgesRow : OpenClaim := { program := "ytmmnpljhffbjhaagreat", sum := "6db8ea2aebced7ec1a25a4ff577b392d121bbfb0ec5b99dfdf1df5dd4819c5c7", func := "tyreworks/tyreworkslaw08.TrialJudges", spec := "trialJudges", inPlace := ["math/bits.Add64", "math/bits.Sub64", "internal/abi.NoEscape", "internal/bytealg.MakeNoZero"], unfollowed := true, recurses := true, named := ["math/bits.divideError", "math/bits.overflowError"], apart := false }
def TrialJudgesSaid : Prop := trialJudgesRow.holds Tryz.pinned (OpenSpec.ofChange trialJudgesSpec)

/-- ITS FALSE NEIGHBOUR: 'it returns false'. Refute it at one input. -/
def trialJudgesWrong : ChangeSpec := { name := "trialJudges", fn := fun _ => fun
  | [d1, d2, d3, d4] => { results := [.lit (.bool false)], args := [d1, d2, d3, d4] }
  | _ => none }
def TrialJudgesWrongFalsely : Prop := trialJudgesRow.holds Tryz.pinned (OpenSpec.ofChange trialJudgesWrong)

/-- 'tyreworkslaw04.RubberResponds': WHATEVER THE INPUT: true; the input reads as it did. -/
def rubberRespondsSpec : ChangeSpec := { name := "rubberResponds", fn := fun _ => fun
  | [d1, d2, d3] => { results := [.lit (.bool true)], args := [d1, d2, d3] }
  | _ => none }
def rubberRespondsRow : OpenClaim := { program := "ytmmnpljhffbjhaagreat", sum := "6db8ea2aebced7ec1a25a4ff577b392d121bbfb0ec5b99dfdf1df5dd4819c5c7", func := "tyreworks/tyreworkslaw04.RubberResponds", spec := "rubberResponds", inPlace := ["math/bits.Add64", "math/bits.Sub64", "math.Float64bits", "math.Float64frombits", "internal/abi.NoEscape", "internal/bytealg.MakeNoZero"], unfollowed := true, recurses := true, named := ["math/bits.divideError", "math/bits.overflowError"], apart := false }
def RubberRespondsSaid : Prop := rubberRespondsRow.holds Tryz.pinned (OpenSpec.ofChange rubberRespondsSpec)

/-- ITS FALSE NEIGHBOUR: 'it returns false'. Refute it at one input. -/
def rubberRespondsWrong : ChangeSpec := { name := "rubberResponds", fn := fun _ => fun
  | [d1, d2, d3] => { results := [.lit (.bool false)], args := [d1, d2, d3] }
  | _ => none }
def RubberRespondsWrongFalsely : Prop := rubberRespondsRow.holds Tryz.pinned (OpenSpec.ofChange rubberRespondsWrong)

/- THE SECOND FORM. 'bulk': how many values and letters a reading holds, each counted each time it is reached (what is shared counts as often as it is met; a slice's spare places count too). A statement '..UptoSaid' is the law's where the arguments, and the package variables that the reading takes, are together of bulk at most 1048576: NARROWER than '..Said'. Prove '..Said' where nothing that the law and all that it calls make is longer than what came in: it says more and counts as full. Else prove '..UptoSaid'. A law counts once. -/
mutual
def uptoBulk {H : Type} : DataW H → Nat
  | .lit (.string bytes) => bytes.length + 1
  | .lit _ => 1
  | .nil => 1
  | .ptr d => uptoBulk d + 1
  | .slice elems spare => uptoBulkAll elems + uptoBulkAll spare + 1
  | .agg parts => uptoBulkAll parts + 1
  | .iface _ d => uptoBulk d + 1
  | .map entries => uptoBulkEntries entries + 1
  | .held _ => 1
def uptoBulkAll {H : Type} : List (DataW H) → Nat
  | [] => 0
  | d :: r => uptoBulk d + uptoBulkAll r
def uptoBulkEntries {H : Type} : List (Lit × DataW H) → Nat
  | [] => 0
  | x :: r => uptoBulkEntry x + uptoBulkEntries r
def uptoBulkEntry {H : Type} : Lit × DataW H → Nat
  | (.string bytes, d) => bytes.length + uptoBulk d + 1
  | (_, d) => uptoBulk d + 1
 end
def uptoSmall : (H : Type) → List (DataW H) → Bool := fun _ ds => decide (uptoBulkAll ds ≤ 1048576)
def OpenSpec.upto (s : _root_.Go.ChangeSpec) : _root_.Go.OpenSpec := { _root_.Go.OpenSpec.ofChange s with cond := some uptoSmall }

/-- 'tyreworkslaw08.TrialKappas', WHERE WHAT IT READS IS OF BULK AT MOST 1048576: true; the input reads as it did. -/
def trialKappasUptoRow : OpenClaim := { program := "ytmmnpljhffbjhaagreat", sum := "6db8ea2aebced7ec1a25a4ff577b392d121bbfb0ec5b99dfdf1df5dd4819c5c7", func := "tyreworks/tyreworkslaw08.TrialKappas", spec := "trialKappas", inPlace := ["math/bits.Add64", "math/bits.Sub64", "internal/abi.NoEscape", "internal/bytealg.MakeNoZero"], unfollowed := true, recurses := true, named := ["math/bits.divideError", "math/bits.overflowError"], apart := false, narrowed := true }
def TrialKappasUptoSaid : Prop := trialKappasUptoRow.holds Tryz.pinned (OpenSpec.upto trialKappasSpec)

/-- 'tyreworkslaw08.TrialReaders', WHERE WHAT IT READS IS OF BULK AT MOST 1048576: true; the input reads as it did. -/
def trialReadersUptoRow : OpenClaim := { program := "ytmmnpljhffbjhaagreat", sum := "6db8ea2aebced7ec1a25a4ff577b392d121bbfb0ec5b99dfdf1df5dd4819c5c7", func := "tyreworks/tyreworkslaw08.TrialReaders", spec := "trialReaders", inPlace := ["math/bits.Add64", "math/bits.Sub64", "internal/abi.NoEscape", "internal/bytealg.MakeNoZero"], unfollowed := true, recurses := true, named := ["math/bits.divideError", "math/bits.overflowError"], apart := false, narrowed := true }
def TrialReadersUptoSaid : Prop := trialReadersUptoRow.holds Tryz.pinned (OpenSpec.upto trialReadersSpec)

/-- 'tyreworkslaw08.TrialMethods', WHERE WHAT IT READS IS OF BULK AT MOST 1048576: true; the input reads as it did. -/
def trialMethodsUptoRow : OpenClaim := { program := "ytmmnpljhffbjhaagreat", sum := "6db8ea2aebced7ec1a25a4ff577b392d121bbfb0ec5b99dfdf1df5dd4819c5c7", func := "tyreworks/tyreworkslaw08.TrialMethods", spec := "trialMethods", inPlace := ["math/bits.Add64", "math/bits.Sub64", "internal/abi.NoEscape", "internal/bytealg.MakeNoZero"], unfollowed := true, recurses := true, named := ["math/bits.divideError", "math/bits.overflowError"], apart := false, narrowed := true }
def TrialMethodsUptoSaid : Prop := trialMethodsUptoRow.holds Tryz.pinned (OpenSpec.upto trialMethodsSpec)

/-- 'tyreworkslaw08.TrialRolls', WHERE WHAT IT READS IS OF BULK AT MOST 1048576: true; the input reads as it did. -/
def trialRollsUptoRow : OpenClaim := { program := "ytmmnpljhffbjhaagreat", sum := "6db8ea2aebced7ec1a25a4ff577b392d121bbfb0ec5b99dfdf1df5dd4819c5c7", func := "tyreworks/tyreworkslaw08.TrialRolls", spec := "trialRolls", inPlace := ["math/bits.Add64", "math/bits.Sub64", "internal/abi.NoEscape", "internal/bytealg.MakeNoZero"], unfollowed := true, recurses := true, named := ["math/bits.divideError", "math/bits.overflowError"], apart := false, narrowed := true }
def TrialRollsUptoSaid : Prop := trialRollsUptoRow.holds Tryz.pinned (OpenSpec.upto trialRollsSpec)

/-- 'tyreworkslaw08.TrialBrakes', WHERE WHAT IT READS IS OF BULK AT MOST 1048576: true; the input reads as it did. -/
def trialBrakesUptoRow : OpenClaim := { program := "ytmmnpljhffbjhaagreat", sum := "6db8ea2aebced7ec1a25a4ff577b392d121bbfb0ec5b99dfdf1df5dd4819c5c7", func := "tyreworks/tyreworkslaw08.TrialBrakes", spec := "trialBrakes", inPlace := ["math/bits.Add64", "math/bits.Sub64", "internal/abi.NoEscape", "internal/bytealg.MakeNoZero"], unfollowed := true, recurses := true, named := ["math/bits.divideError", "math/bits.overflowError"], apart := false, narrowed := true }
def TrialBrakesUptoSaid : Prop := trialBrakesUptoRow.holds Tryz.pinned (OpenSpec.upto trialBrakesSpec)

/-- 'tyreworkslaw08.TrialDrifts', WHERE WHAT IT READS IS OF BULK AT MOST 1048576: true; the input reads as it did. -/
def trialDriftsUptoRow : OpenClaim := { program := "ytmmnpljhffbjhaagreat", sum := "6db8ea2aebced7ec1a25a4ff577b392d121bbfb0ec5b99dfdf1df5dd4819c5c7", func := "tyreworks/tyreworkslaw08.TrialDrifts", spec := "trialDrifts", inPlace := ["math/bits.Add64", "math/bits.Sub64", "internal/abi.NoEscape", "internal/bytealg.MakeNoZero"], unfollowed := true, recurses := true, named := ["math/bits.divideError", "math/bits.overflowError"], apart := false, narrowed := true }
def TrialDriftsUptoSaid : Prop := trialDriftsUptoRow.holds Tryz.pinned (OpenSpec.upto trialDriftsSpec)

/-- 'tyreworkslaw08.TrialLabels', WHERE WHAT IT READS IS OF BULK AT MOST 1048576: true; the input reads as it did. -/
def trialLabelsUptoRow : OpenClaim := { program := "ytmmnpljhffbjhaagreat", sum := "6db8ea2aebced7ec1a25a4ff577b392d121bbfb0ec5b99dfdf1df5dd4819c5c7", func := "tyreworks/tyreworkslaw08.TrialLabels", spec := "trialLabels", inPlace := ["math/bits.Add64", "math/bits.Sub64", "internal/abi.NoEscape", "internal/bytealg.MakeNoZero"], unfollowed := true, recurses := true, named := ["math/bits.divideError", "math/bits.overflowError"], apart := false, narrowed := true }
def TrialLabelsUptoSaid : Prop := trialLabelsUptoRow.holds Tryz.pinned (OpenSpec.upto trialLabelsSpec)

/-- 'tyreworkslaw08.TrialKept', WHERE WHAT IT READS IS OF BULK AT MOST 1048576: true; the input reads as it did. -/
def trialKeptUptoRow : OpenClaim := { program := "ytmmnpljhffbjhaagreat", sum := "6db8ea2aebced7ec1a25a4ff577b392d121bbfb0ec5b99dfdf1df5dd4819c5c7", func := "tyreworks/tyreworkslaw08.TrialKept", spec := "trialKept", inPlace := ["math/bits.Add64", "math/bits.Sub64", "internal/abi.NoEscape", "internal/bytealg.MakeNoZero"], unfollowed := true, recurses := true, named := ["math/bits.divideError", "math/bits.overflowError"], apart := false, narrowed := true }
def TrialKeptUptoSaid : Prop := trialKeptUptoRow.holds Tryz.pinned (OpenSpec.upto trialKeptSpec)

/-- 'tyreworkslaw08.TrialStages', WHERE WHAT IT READS IS OF BULK AT MOST 1048576: true; the input reads as it did. -/
def trialStagesUptoRow : OpenClaim := { program := "ytmmnpljhffbjhaagreat", sum := "6db8ea2aebced7ec1a25a4ff577b392d121bbfb0ec5b99dfdf1df5dd4819c5c7", func := "tyreworks/tyreworkslaw08.TrialStages", spec := "trialStages", inPlace := ["math/bits.Add64", "math/bits.Sub64", "internal/abi.NoEscape", "internal/bytealg.MakeNoZero"], unfollowed := true, recurses := true, named := ["math/bits.divideError", "math/bits.overflowError"], apart := false, narrowed := true }
def TrialStagesUptoSaid : Prop := trialStagesUptoRow.holds Tryz.pinned (OpenSpec.upto trialStagesSpec)

/-- 'tyreworkslaw08.TrialJudges', WHERE WHAT IT READS IS OF BULK AT MOST 1048576: true; the input reads as it did. -/
def trialJudgesUptoRow : OpenClaim := { program := "ytmmnpljhffbjhaagreat", sum := "6db8ea2aebced7ec1a25a4ff577b392d121bbfb0ec5b99dfdf1df5dd4819c5c7", func := "tyreworks/tyreworkslaw08.TrialJudges", spec := "trialJudges", inPlace := ["math/bits.Add64", "math/bits.Sub64", "internal/abi.NoEscape", "internal/bytealg.MakeNoZero"], unfollowed := true, recurses := true, named := ["math/bits.divideError", "math/bits.overflowError"], apart := false, narrowed := true }
def TrialJudgesUptoSaid : Prop := trialJudgesUptoRow.holds Tryz.pinned (OpenSpec.upto trialJudgesSpec)

/-- 'tyreworkslaw04.RubberResponds', WHERE WHAT IT READS IS OF BULK AT MOST 1048576: true; the input reads as it did. -/
def rubberRespondsUptoRow : OpenClaim := { program := "ytmmnpljhffbjhaagreat", sum := "6db8ea2aebced7ec1a25a4ff577b392d121bbfb0ec5b99dfdf1df5dd4819c5c7", func := "tyreworks/tyreworkslaw04.RubberResponds", spec := "rubberResponds", inPlace := ["math/bits.Add64", "math/bits.Sub64", "math.Float64bits", "math.Float64frombits", "internal/abi.NoEscape", "internal/bytealg.MakeNoZero"], unfollowed := true, recurses := true, named := ["math/bits.divideError", "math/bits.overflowError"], apart := false, narrowed := true }
def RubberRespondsUptoSaid : Prop := rubberRespondsUptoRow.holds Tryz.pinned (OpenSpec.upto rubberRespondsSpec)

end Rows
end Go.Proofs.YtmmnpljhffbjhaaGreat
