/- RubberCurves: for every input the call returns true, and each argument reads afterwards as it read before. Conditions: none (the given statement). -/
import Derived.Test.YtlemohkjkgiloaaGreatRows
import Derived.WalkKit
import Derived.ProofKit
import Derived.Test.YtlemohkjkgiloaaGreatCvG
namespace Go.Proofs.YtlemohkjkgiloaaGreat
open Go.ChangeShapes Go.WideShapes Go.ChangeAt Go.RowKit Go.Eng
theorem curves.own : ownKnob Tryz.prog.godebug = none := by kernel_rfl
theorem curves.laidOut : laidOutB Tryz.prog = true := by kernel_rfl
theorem curves.r24 : Zfe Tryz.prog 24 (ZB (Zg .i64) (Zg .i64)) := ZJm Tryz.underlying24 (ZYl Tryz.underlying2) (ZYl Tryz.underlying2) rfl (by kernel_rfl) rfl (by kernel_rfl) (by kernel_rfl)
theorem curves.r88 : Zfe Tryz.prog 88 (ZB (ZA .f32) (ZA .f32)) := ZJm Tryz.underlying88 (ZLm Tryz.underlying84) (ZLm Tryz.underlying84) rfl (by kernel_rfl) rfl (by kernel_rfl) (by kernel_rfl)
theorem curves.r22 : Zfe Tryz.prog 22 (ZN (ZB (ZA .f32) (ZA .f32))) := Zyp Tryz.underlying22 curves.r88 (by kernel_rfl) (by decide)
set_option maxRecDepth 100000 in
theorem ZNn (os : Os) (started : os.Started) (H : Type) (enc : TypeId × Value → H) :
    ReturnsInHanded {} Tryz.checked os 3 .any (Rows.rubberCurvesSpec.pre6 enc Tryz.prog Tryz.f3 Rows.rubberCurvesRow.domain false) (Rows.rubberCurvesSpec.post enc Tryz.prog Tryz.f3 false true false false) := by
  refine returnsInHanded_of_change (C := Tryz.checked) curves.own started (by kernel_rfl) Tryz.func3
    (ChangeSpec.witness6 (enc := enc) (C := Tryz.checked) false ⟨#[], #[.slice none 0 0, .agg #[.int .i64 0, .int .i64 0]], []⟩ 8 (by kernel_rfl) (by kernel_rfl) (by kernel_rfl) (by kernel_rfl)) ?_
  intro W base args ds gs before hval0 hW hcnd _
  have hval : ∀ (j : Nat) t v, Tryz.f3.params[j]? = some t → args[j]? = some v → Value.okWide Tryz.prog W .any base t v := hval0
  have hW' := hW
  obtain ⟨p, q, hA0, hV, rfl, hfz, hnd⟩ := hW
  have hA : DataW.TrodAll enc Tryz.prog W 0 (fun _ => true) true Tryz.f3.params.toList args.toList ds p := hA0
  rw [Tryz.params3] at hA hval
  obtain ⟨v0, vs0, d0, ds0, p0, q0, hargs, rfl, rfl, h0, r0⟩ := trodAll_cons hA
  obtain ⟨v1, vs1, d1, ds1, p1, q1, rfl, rfl, rfl, h1, r1⟩ := trodAll_cons r0
  obtain ⟨rfl, rfl, rfl⟩ := trodAll_nil r1
  obtain ⟨rfl, rfl⟩ := trodVars_none hV
  obtain rfl : args = #[v0, v1] := by cases args; simp_all
  obtain ⟨f0, h0⟩ := h0
  obtain ⟨f1, h1⟩ := h1
  obtain ⟨x0, k0⟩ := curves.r22 _ _ _ _ _ _ h0
  obtain ⟨x1, k1⟩ := curves.r24 _ _ _ _ _ _ h1
  have e0 := ZUn (A := (ZN (ZB (ZA .f32) (ZA .f32)))) rfl Tryz.underlying22 (hval 0 22 v0 rfl rfl)
  have e1 := val_agg (A := (ZB (Zg .i64) (Zg .i64))) rfl (.inl ⟨_, Tryz.underlying24⟩) (hval 1 24 v1 rfl rfl)
  have hm := Zzq x0 x1 (i64_of k1)
  have hw := ZBn (Zzo W) k0 k1 hm
  rw [← e0, ← e1] at hw
  refine Calls.mono hw fun e W' ⟨r, v', he, hx, _, hr⟩ => ?_
  obtain ⟨r0, rfl, hb⟩ := hr
  obtain rfl : r0 = [.bool true] := hb
  exact ⟨_, he, Zzn curves.laidOut (by decide +kernel) Tryz.underlying4 rfl rfl rfl rfl rfl hW' hx⟩
theorem curves_holds : Rows.RubberCurvesSaid :=
  OpenClaim.holds_of_wide 3 Tryz.f3 rfl rfl rfl rfl rfl rfl rfl ⟨rfl, rfl, rfl, rfl, rfl⟩ rfl rfl rfl rfl rfl (by kernel_rfl) Tryz.func3 (by kernel_rfl)
    (of_decide_eq_true (by kernel_rfl)) (by unfold Func.isWrapper; first | (rw [if_pos (by decide +kernel)]; kernel_rfl) | (rw [if_neg (by decide +kernel)]; exact ⟨rfl, rfl⟩))
    (fun os started H enc _ => ZNn os started H enc)
end Go.Proofs.YtlemohkjkgiloaaGreat
