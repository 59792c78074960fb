/- TrialDrifts: for every input the call returns true, and each argument reads afterwards as it read before. Conditions: none (the given statement). -/
import Derived.Test.YtmmnpljhffbjhaaGreatRows
import Derived.WalkKit
import Derived.ProofKit
import Derived.Test.YtmmnpljhffbjhaaGreatDfF
namespace Go.Proofs.YtmmnpljhffbjhaaGreat
open Go.ChangeShapes Go.WideShapes Go.ChangeAt Go.RowKit Go.Eng
theorem drifts.own : ownKnob Tryz.prog.godebug = none := by kernel_rfl
theorem drifts.laidOut : laidOutB Tryz.prog = true := by kernel_rfl
theorem drifts.r89 : Zcf Tryz.prog 89 (Zu ZR) := Zkn Tryz.underlying89 (ZUl Tryz.underlying4) (by kernel_rfl) (by decide)
theorem drifts.r5 : Zcf Tryz.prog 5 (Za .u8) := Z5o Tryz.underlying5
set_option maxRecDepth 100000 in
theorem Zqn (os : Os) (started : os.Started) (H : Type) (enc : TypeId × Value → H) :
    ReturnsInHanded {} Tryz.checked os 8 .any (Rows.trialDriftsSpec.pre6 enc Tryz.prog Tryz.f8 Rows.trialDriftsRow.domain false) (Rows.trialDriftsSpec.post enc Tryz.prog Tryz.f8 false true false false) := by
  refine returnsInHanded_of_change (C := Tryz.checked) drifts.own started (by kernel_rfl) Tryz.func8
    (ChangeSpec.witness6 (enc := enc) (C := Tryz.checked) false ⟨#[], #[.slice none 0 0, .int .u8 0, .int .u8 0, .int .u8 0, .int .u8 0], []⟩ 8 (by kernel_rfl) (by kernel_rfl) (by kernel_rfl) (by kernel_rfl)) ?_
  intro W base args ds gs before hval0 hW hcnd _
  have hval : ∀ (j : Nat) t v, Tryz.f8.params[j]? = some t → args[j]? = some v → Value.okWide Tryz.prog W .any base t v := hval0
  have hW' := hW
  obtain ⟨p, q, hA0, hV, rfl, hfz, hnd⟩ := hW
  have hA : DataW.TrodAll enc Tryz.prog W 0 (fun _ => true) true Tryz.f8.params.toList args.toList ds p := hA0
  rw [Tryz.params8] at hA hval
  obtain ⟨v0, vs0, d0, ds0, p0, q0, hargs, rfl, rfl, h0, r0⟩ := trodAll_cons hA
  obtain ⟨v1, vs1, d1, ds1, p1, q1, rfl, rfl, rfl, h1, r1⟩ := trodAll_cons r0
  obtain ⟨v2, vs2, d2, ds2, p2, q2, rfl, rfl, rfl, h2, r2⟩ := trodAll_cons r1
  obtain ⟨v3, vs3, d3, ds3, p3, q3, rfl, rfl, rfl, h3, r3⟩ := trodAll_cons r2
  obtain ⟨v4, vs4, d4, ds4, p4, q4, rfl, rfl, rfl, h4, r4⟩ := trodAll_cons r3
  obtain ⟨rfl, rfl, rfl⟩ := trodAll_nil r4
  obtain ⟨rfl, rfl⟩ := trodVars_none hV
  obtain rfl : args = #[v0, v1, v2, v3, v4] := by cases args; simp_all
  obtain ⟨f0, h0⟩ := h0
  obtain ⟨f1, h1⟩ := h1
  obtain ⟨f2, h2⟩ := h2
  obtain ⟨f3, h3⟩ := h3
  obtain ⟨f4, h4⟩ := h4
  obtain ⟨x0, k0⟩ := drifts.r89 _ _ _ _ _ _ h0
  obtain ⟨x1, k1⟩ := drifts.r5 _ _ _ _ _ _ h1
  obtain ⟨x2, k2⟩ := drifts.r5 _ _ _ _ _ _ h2
  obtain ⟨x3, k3⟩ := drifts.r5 _ _ _ _ _ _ h3
  obtain ⟨x4, k4⟩ := drifts.r5 _ _ _ _ _ _ h4
  have e0 := ZQn (A := (Zu ZR)) rfl Tryz.underlying89 (hval 0 89 v0 rfl rfl)
  have e1 := Zah (A := (Za .u8)) rfl Tryz.underlying5 (hval 1 5 v1 rfl rfl)
  have e2 := Zah (A := (Za .u8)) rfl Tryz.underlying5 (hval 2 5 v2 rfl rfl)
  have e3 := Zah (A := (Za .u8)) rfl Tryz.underlying5 (hval 3 5 v3 rfl rfl)
  have e4 := Zah (A := (Za .u8)) rfl Tryz.underlying5 (hval 4 5 v4 rfl rfl)
  obtain ⟨_, u1⟩ := id k1
  obtain ⟨_, u2⟩ := id k2
  obtain ⟨_, u3⟩ := id k3
  obtain ⟨_, u4⟩ := id k4
  have hm := ZQo x0 x1 x2 x3 x4 (ZGe.1 u1) (ZGe.1 u2) (ZGe.1 u3) (ZGe.1 u4)
  have hw := Z2m (Zfo W) k0 k1 k2 k3 k4 hm
  rw [← e0, ← e1, ← e2, ← e3, ← e4] at hw
  refine Calls.mono hw fun e W' ⟨r, v', he, hx, _, hr⟩ => ?_
  obtain ⟨r0, rfl, hb⟩ := hr
  obtain rfl : r0 = [.bool true] := hb
  exact ⟨_, he, Zin drifts.laidOut (by decide +kernel) Tryz.underlying4 rfl rfl rfl rfl rfl hW' hx⟩
theorem drifts_holds : Rows.TrialDriftsSaid :=
  OpenClaim.holds_of_wide 8 Tryz.f8 rfl rfl rfl rfl rfl rfl rfl ⟨rfl, rfl, rfl, rfl, rfl⟩ rfl rfl rfl rfl rfl (by kernel_rfl) Tryz.func8 (by kernel_rfl)
    (of_decide_eq_true (by kernel_rfl)) (by unfold Func.isWrapper; first | (rw [if_pos (by decide +kernel)]; kernel_rfl) | (rw [if_neg (by decide +kernel)]; exact ⟨rfl, rfl⟩))
    (fun os started H enc _ => Zqn os started H enc)
end Go.Proofs.YtmmnpljhffbjhaaGreat
