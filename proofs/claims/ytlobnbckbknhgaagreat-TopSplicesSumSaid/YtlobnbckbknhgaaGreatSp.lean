/- TopSplicesSum: for every input the call returns true, and each argument reads afterwards as it read before. Conditions: none (the given statement). -/
import Derived.Test.YtlobnbckbknhgaaGreatRows
import Derived.WalkKit
import Derived.ProofKit
import Derived.Test.YtlobnbckbknhgaaGreatSpF
namespace Go.Proofs.YtlobnbckbknhgaaGreat
open Go.ChangeShapes Go.WideShapes Go.ChangeAt Go.RowKit Go.Eng
theorem splicessum.own:ownKnob Tryz.prog.godebug = none := by kernel_rfl
theorem splicessum.laidOut:laidOutB Tryz.prog = true := by kernel_rfl
theorem splicessum.ru8:ZBd Tryz.prog 5 (Zd .u8) := Zvl Tryz.underlying5
theorem splicessum.ra2:ZBd Tryz.prog 88 (ZQb (Zd .u8) (Zd .u8)) := Z8r Tryz.underlying88 (Zvl Tryz.underlying5) (by kernel_rfl) (by kernel_rfl)
theorem splicessum.rl:ZBd Tryz.prog 22 (Zr (ZQb (Zd .u8) (Zd .u8))) := ZDs Tryz.underlying22 splicessum.ra2 (by kernel_rfl) (by decide)
set_option maxRecDepth 100000 in
theorem Zrt (os:Os) (started:os.Started) (H:Type) (enc:TypeId×Value→H) :
    ReturnsInHanded {} Tryz.checked os 3 .any (Rows.topSplicesSumSpec.pre6 enc Tryz.prog Tryz.f3 Rows.topSplicesSumRow.domain false) (Rows.topSplicesSumSpec.post enc Tryz.prog Tryz.f3 false true false false) := by
  refine returnsInHanded_of_change (C := Tryz.checked) splicessum.own started (by kernel_rfl) Tryz.func3
    (ChangeSpec.witness6 (enc := enc) (C := Tryz.checked) false ⟨#[], #[.slice none 0 0, .int .u8 0], []⟩ 8 (by kernel_rfl) (by kernel_rfl) (by kernel_rfl) (by kernel_rfl)) ?_
  intro W base args ds gs before hval0 hW hcnd _
  have hval:∀ (j:Nat) t v, Tryz.f3.params[j]? = some t→args[j]? = some v→Value.okWide Tryz.prog W .any base t v := hval0
  have hW' := hW
  obtain ⟨p, q, hA0, hV, rfl, hfz, hnd⟩ := hW
  have hA:DataW.TrodAll enc Tryz.prog W 0 (fun _ => true) true Tryz.f3.params.toList args.toList ds p := hA0
  rw [Tryz.params3] at hA hval
  obtain ⟨v0, vs0, d0, ds0, p0, q0, hargs, rfl, rfl, h0, r0⟩ := trodAll_cons hA
  obtain ⟨v1, vs1, d1, ds1, p1, q1, rfl, rfl, rfl, h1, r1⟩ := trodAll_cons r0
  obtain ⟨rfl, rfl, rfl⟩ := trodAll_nil r1
  obtain ⟨rfl, rfl⟩ := trodVars_none hV
  obtain rfl:args = #[v0, v1] := by cases args; simp_all
  obtain ⟨f0, h0⟩ := h0
  obtain ⟨f1, h1⟩ := h1
  obtain ⟨x0, k0⟩ := splicessum.rl _ _ _ _ _ _ h0
  obtain ⟨x1, k1⟩ := splicessum.ru8 _ _ _ _ _ _ h1
  have e0 := ZSr (A := (Zr (ZQb (Zd .u8) (Zd .u8)))) rfl Tryz.underlying22 (hval 0 22 v0 rfl rfl)
  have e1 := val_int (A := (Zd .u8)) rfl Tryz.underlying5 (hval 1 5 v1 rfl rfl)
  have hm := Zms (l := x0) (rot := x1) (Z0q k0) (fun x hx => by obtain ⟨c, c1, c2, _, ha, hb⟩ := Zlt k0 hx; exact ⟨ha.2, hb.2⟩) k1.2
  have hw := ZRt (Zer W) k0 k1 hm
  rw [← e0, ← e1] at hw
  refine Calls.mono hw fun e W' ⟨r, v', he, hx, _, hr⟩ => ?_
  obtain ⟨r0, rfl, hb⟩ := hr
  obtain rfl:r0 = [.bool true] := hb
  exact ⟨_, he, Zor splicessum.laidOut (by decide +kernel) Tryz.underlying4 rfl rfl rfl rfl rfl hW' hx⟩
theorem splicessum_holds:Rows.TopSplicesSumSaid :=
  OpenClaim.holds_of_wide 3 Tryz.f3 rfl rfl rfl rfl rfl rfl rfl ⟨rfl, rfl, rfl, rfl, rfl⟩ rfl rfl rfl rfl rfl (by kernel_rfl) Tryz.func3 (by kernel_rfl)
    (of_decide_eq_true (by kernel_rfl)) (by unfold Func.isWrapper; first | (rw [if_pos (by decide +kernel)]; kernel_rfl) | (rw [if_neg (by decide +kernel)]; exact ⟨rfl, rfl⟩))
    (fun os started H enc _ => Zrt os started H enc)
end Go.Proofs.YtlobnbckbknhgaaGreat
