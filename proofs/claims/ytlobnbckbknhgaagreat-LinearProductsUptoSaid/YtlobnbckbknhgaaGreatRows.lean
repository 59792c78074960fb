/-
  No cell of these rows narrows 'for every input' (looked for: loops, veiled, ifaces, maps, wideKeys, modest, calm, conditions, laid).
  DERIVED. THE GIVEN ROWS OF THIS SEAT. 2 by the template 'for every input the law returns true; each argument reads behind the call as it read before'; 0 by the template 'total and deterministic' (their statements: YtlobnbckbknhgaaGreatTotals.lean).
  GIVEN WITH THE SEED: the statements are not yours to turn. If you find one false, say at which input.
  Laid BY PROGRAM, IN A SANDBOX (cutbox-rows.mjs): the forced cells as the released guide's own fill.sh prints them over the translation 67cb66b3460c236f… (all of the seat's roots in one cut). By AI agents, Wed Nov 11 2026. No macro, syntax, notation, axiom, sorry.
-/
import Derived.Test.YtlobnbckbknhgaaGreatChecked
import GoSem.Claim
import GoSem.ClaimJoined
import GoSem.ClaimMapViews
import Derived.JoinedTies
import Derived.KernelRfl
namespace Go.Proofs.YtlobnbckbknhgaaGreat
/- THE CELL 'sum', in the pinned program and in every row, IS THE sha256 OF THE DUMP (.gsa) THAT YtlobnbckbknhgaaGreatProg.lean LOADS. Nothing in Lean hashes anything: it is a label: what it is worth is what the hold of that sum in a sandbox is worth. -/
noncomputable def Tryz.pinned : Pinned := { name := "ytlobnbckbknhgaagreat", sum := "67cb66b3460c236f96279e546b743d41be7820a4a05f2f115e6a35baf3358c66", checked := Tryz.checked }
namespace Rows
def none {H : Type} : Left H := { results := [], args := [] }

/-- 'tyreworkstop.TopSplicesSum': WHATEVER THE INPUT: true; the input reads as it did. -/
def topSplicesSumSpec : ChangeSpec := { name := "topSplicesSum", fn := fun _ => fun
  | [d1, d2] => { results := [.lit (.bool true)], args := [d1, d2] }
  | _ => none }
def topSplicesSumRow : OpenClaim := { program := "ytlobnbckbknhgaagreat", sum := "67cb66b3460c236f96279e546b743d41be7820a4a05f2f115e6a35baf3358c66", func := "tyreworks/tyreworkstop.TopSplicesSum", spec := "topSplicesSum", inPlace := ["math/bits.Add64", "math/bits.Sub64", "internal/abi.NoEscape", "internal/bytealg.MakeNoZero"], unfollowed := true, recurses := true, named := ["math/bits.divideError", "math/bits.overflowError"], apart := false }
def TopSplicesSumSaid : Prop := topSplicesSumRow.holds Tryz.pinned (OpenSpec.ofChange topSplicesSumSpec)

/-- ITS FALSE NEIGHBOUR: 'it returns false'. Refute it at one input. -/
def topSplicesSumWrong : ChangeSpec := { name := "topSplicesSum", fn := fun _ => fun
  | [d1, d2] => { results := [.lit (.bool false)], args := [d1, d2] }
  | _ => none }
def TopSplicesSumWrongFalsely : Prop := topSplicesSumRow.holds Tryz.pinned (OpenSpec.ofChange topSplicesSumWrong)

/-- 'tyreworkslaw02.LinearProducts': WHATEVER THE INPUT: true; the input reads as it did. -/
def linearProductsSpec : ChangeSpec := { name := "linearProducts", fn := fun _ => fun
  | [d1, d2, d3, d4, d5] => { results := [.lit (.bool true)], args := [d1, d2, d3, d4, d5] }
  | _ => none }
def linearProductsRow : OpenClaim := { program := "ytlobnbckbknhgaagreat", sum := "67cb66b3460c236f96279e546b743d41be7820a4a05f2f115e6a35baf3358c66", func := "tyreworks/tyreworkslaw02.LinearProducts", spec := "linearProducts", inPlace := ["math/bits.Add64", "math/bits.Sub64", "internal/abi.NoEscape", "internal/bytealg.MakeNoZero"], unfollowed := true, recurses := true, named := ["math/bits.divideError", "math/bits.overflowError"], apart := false }
def LinearProductsSaid : Prop := linearProductsRow.holds Tryz.pinned (OpenSpec.ofChange linearProductsSpec)

/-- ITS FALSE NEIGHBOUR: 'it returns false'. Refute it at one input. -/
def linearProductsWrong : ChangeSpec := { name := "linearProducts", fn := fun _ => fun
  | [d1, d2, d3, d4, d5] => { results := [.lit (.bool false)], args := [d1, d2, d3, d4, d5] }
  | _ => none }
def LinearProductsWrongFalsely : Prop := linearProductsRow.holds Tryz.pinned (OpenSpec.ofChange linearProductsWrong)

/- THE SECOND FORM. 'bulk': how many values and letters a reading holds, each counted each time it is reached (what is shared counts as often as it is met; a slice's spare places count too). A statement '..UptoSaid' is the law's where the arguments, and the package variables that the reading takes, are together of bulk at most 1048576: NARROWER than '..Said'. Prove '..Said' where nothing that the law and all that it calls make is longer than what came in: it says more and counts as full. Else prove '..UptoSaid'. A law counts once. -/
mutual
def uptoBulk {H : Type} : DataW H → Nat
  | .lit (.string bytes) => bytes.length + 1
  | .lit _ => 1
  | .nil => 1
  | .ptr d => uptoBulk d + 1
  | .slice elems spare => uptoBulkAll elems + uptoBulkAll spare + 1
  | .agg parts => uptoBulkAll parts + 1
  | .iface _ d => uptoBulk d + 1
  | .map entries => uptoBulkEntries entries + 1
  | .held _ => 1
def uptoBulkAll {H : Type} : List (DataW H) → Nat
  | [] => 0
  | d :: r => uptoBulk d + uptoBulkAll r
def uptoBulkEntries {H : Type} : List (Lit × DataW H) → Nat
  | [] => 0
  | x :: r => uptoBulkEntry x + uptoBulkEntries r
def uptoBulkEntry {H : Type} : Lit × DataW H → Nat
  | (.string bytes, d) => bytes.length + uptoBulk d + 1
  | (_, d) => uptoBulk d + 1
 end
def uptoSmall : (H : Type) → List (DataW H) → Bool := fun _ ds => decide (uptoBulkAll ds ≤ 1048576)
def OpenSpec.upto (s : _root_.Go.ChangeSpec) : _root_.Go.OpenSpec := { _root_.Go.OpenSpec.ofChange s with cond := some uptoSmall }

/-- 'tyreworkstop.TopSplicesSum', WHERE WHAT IT READS IS OF BULK AT MOST 1048576: true; the input reads as it did. -/
def topSplicesSumUptoRow : OpenClaim := { program := "ytlobnbckbknhgaagreat", sum := "67cb66b3460c236f96279e546b743d41be7820a4a05f2f115e6a35baf3358c66", func := "tyreworks/tyreworkstop.TopSplicesSum", spec := "topSplicesSum", inPlace := ["math/bits.Add64", "math/bits.Sub64", "internal/abi.NoEscape", "internal/bytealg.MakeNoZero"], unfollowed := true, recurses := true, named := ["math/bits.divideError", "math/bits.overflowError"], apart := false, narrowed := true }
def TopSplicesSumUptoSaid : Prop := topSplicesSumUptoRow.holds Tryz.pinned (OpenSpec.upto topSplicesSumSpec)

/-- 'tyreworkslaw02.LinearProducts', WHERE WHAT IT READS IS OF BULK AT MOST 1048576: true; the input reads as it did. -/
def linearProductsUptoRow : OpenClaim := { program := "ytlobnbckbknhgaagreat", sum := "67cb66b3460c236f96279e546b743d41be7820a4a05f2f115e6a35baf3358c66", func := "tyreworks/tyreworkslaw02.LinearProducts", spec := "linearProducts", inPlace := ["math/bits.Add64", "math/bits.Sub64", "internal/abi.NoEscape", "internal/bytealg.MakeNoZero"], unfollowed := true, recurses := true, named := ["math/bits.divideError", "math/bits.overflowError"], apart := false, narrowed := true }
def LinearProductsUptoSaid : Prop := linearProductsUptoRow.holds Tryz.pinned (OpenSpec.upto linearProductsSpec)

end Rows
end Go.Proofs.YtlobnbckbknhgaaGreat
