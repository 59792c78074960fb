/- TrialRotates: for every input the call returns true, and each argument reads afterwards as it read before. Conditions: none (the given statement). -/
import Derived.Test.YtnmoidpfdhalbaaGreatRows
import Derived.WalkKit
import Derived.ProofKit
import Derived.Test.YtnmoidpfdhalbaaGreatRoF
namespace Go.Proofs.YtnmoidpfdhalbaaGreat
open Go.ChangeShapes Go.WideShapes Go.ChangeAt Go.RowKit Go.Eng
theorem rotates.own:ownKnob Tryz.prog.godebug = none := by kernel_rfl
theorem rotates.laidOut:laidOutB Tryz.prog = true := by kernel_rfl
theorem rotates.ri:Reads Tryz.prog 3 (Zd .i64) := Z3s Tryz.underlying3
set_option maxRecDepth 100000 in
theorem ZDu (os:Os) (started:os.Started) (H:Type) (enc:TypeId×Value→H) :
    ReturnsInHanded {} Tryz.checked os 4 .any (Rows.trialRotatesSpec.pre6 enc Tryz.prog Tryz.f4 Rows.trialRotatesRow.domain false) (Rows.trialRotatesSpec.post enc Tryz.prog Tryz.f4 false true false false) := by
  refine returnsInHanded_of_change (C := Tryz.checked) rotates.own started (by kernel_rfl) Tryz.func4
    (ChangeSpec.witness6 (enc := enc) (C := Tryz.checked) false ⟨#[], #[.int .i64 0, .int .i64 0, .int .i64 0], []⟩ 8 (by kernel_rfl) (by kernel_rfl) (by kernel_rfl) (by kernel_rfl)) ?_
  intro W base args ds gs before hval0 hW hcnd _
  have hval:∀ (j:Nat) t v, Tryz.f4.params[j]? = some t→args[j]? = some v→Value.okWide Tryz.prog W .any base t v := hval0
  have hW' := hW
  obtain ⟨p, q, hA0, hV, rfl, hfz, hnd⟩ := hW
  have hA:DataW.TrodAll enc Tryz.prog W 0 (fun _ => true) true Tryz.f4.params.toList args.toList ds p := hA0
  rw [Tryz.params4] at hA hval
  obtain ⟨v0, vs0, d0, ds0, p0, q0, hargs, rfl, rfl, h0, r0⟩ := trodAll_cons hA
  obtain ⟨v1, vs1, d1, ds1, p1, q1, rfl, rfl, rfl, h1, r1⟩ := trodAll_cons r0
  obtain ⟨v2, vs2, d2, ds2, p2, q2, rfl, rfl, rfl, h2, r2⟩ := trodAll_cons r1
  obtain ⟨rfl, rfl, rfl⟩ := trodAll_nil r2
  obtain ⟨rfl, rfl⟩ := trodVars_none hV
  obtain rfl:args = #[v0, v1, v2] := by cases args; simp_all
  obtain ⟨f0, h0⟩ := h0
  obtain ⟨f1, h1⟩ := h1
  obtain ⟨f2, h2⟩ := h2
  obtain ⟨x0, k0⟩ := rotates.ri _ _ _ _ _ _ h0
  obtain ⟨x1, k1⟩ := rotates.ri _ _ _ _ _ _ h1
  obtain ⟨x2, k2⟩ := rotates.ri _ _ _ _ _ _ h2
  have e0 := Zdl (A := (Zd .i64)) rfl Tryz.underlying3 (hval 0 3 v0 rfl rfl)
  have e1 := Zdl (A := (Zd .i64)) rfl Tryz.underlying3 (hval 1 3 v1 rfl rfl)
  have e2 := Zdl (A := (Zd .i64)) rfl Tryz.underlying3 (hval 2 3 v2 rfl rfl)
  have hm := Z4r x0 x1 x2
  have hw := Z2u (ZLu W) k0 k1 k2 hm
  rw [← e0, ← e1, ← e2] at hw
  refine Calls.mono hw fun e W' ⟨r, v', he, hx, _, hr⟩ => ?_
  obtain ⟨r0, rfl, hb⟩ := hr
  obtain rfl:r0 = [.bool true] := hb
  exact ⟨_, he, Zlr rotates.laidOut (by decide +kernel) Tryz.underlying4 rfl rfl rfl rfl rfl hW' hx⟩
theorem rotates_holds:Rows.TrialRotatesSaid :=
  OpenClaim.holds_of_wide 4 Tryz.f4 rfl rfl rfl rfl rfl rfl rfl ⟨rfl, rfl, rfl, rfl, rfl⟩ rfl rfl rfl rfl rfl (by kernel_rfl) Tryz.func4 (by kernel_rfl)
    (of_decide_eq_true (by kernel_rfl)) (by unfold Func.isWrapper; first | (rw [if_pos (by decide +kernel)]; kernel_rfl) | (rw [if_neg (by decide +kernel)]; exact ⟨rfl, rfl⟩))
    (fun os started H enc _ => ZDu os started H enc)
end Go.Proofs.YtnmoidpfdhalbaaGreat
