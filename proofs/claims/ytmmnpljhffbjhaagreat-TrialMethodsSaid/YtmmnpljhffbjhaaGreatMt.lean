/- TrialMethods: for every input the call returns true, and each argument reads afterwards as it read before. Conditions: none (the given statement). -/
import Derived.Test.YtmmnpljhffbjhaaGreatRows
import Derived.WalkKit
import Derived.ProofKit
import Derived.Test.YtmmnpljhffbjhaaGreatMtG
namespace Go.Proofs.YtmmnpljhffbjhaaGreat
open Go.ChangeShapes Go.WideShapes Go.ChangeAt Go.RowKit Go.Eng
theorem methods.own : ownKnob Tryz.prog.godebug = none := by kernel_rfl
theorem methods.laidOut : laidOutB Tryz.prog = true := by kernel_rfl
theorem methods.r50 : ZYd Tryz.prog 50 (Zu (Zb .i64) (Zb .i64)) := ZJo Tryz.underlying50 (Znl Tryz.underlying2) (Znl Tryz.underlying2) rfl (by kernel_rfl) rfl (by kernel_rfl) (by kernel_rfl)
theorem methods.r51 : ZYd Tryz.prog 51 (Zu (Zu (Zb .i64) (Zb .i64)) (Zu (Zu (Zb .i64) (Zb .i64)) (Zu (Zb .i64) (Zb .i64)))) := Zgn Tryz.underlying51 methods.r50 (by kernel_rfl) (by kernel_rfl)
theorem methods.i64 {v : Ze} {c : List Value} {r : Int × Int} (h : Rep.rel (Zu (Zb .i64) (Zb .i64)) v c r) : Eng.i64 r := by
  obtain ⟨c1, c2, _, ⟨_, h1⟩, _, h2⟩ := h
  exact ⟨ZPb.1 h1, ZPb.1 h2⟩
set_option maxRecDepth 100000 in
theorem Z2n (os : Os) (started : os.Started) (H : Type) (enc : TypeId × Value → H) :
    ReturnsInHanded {} Tryz.checked os 5 .any (Rows.trialMethodsSpec.pre6 enc Tryz.prog Tryz.f5 Rows.trialMethodsRow.domain false) (Rows.trialMethodsSpec.post enc Tryz.prog Tryz.f5 false true false false) := by
  refine returnsInHanded_of_change (C := Tryz.checked) methods.own started (by kernel_rfl) Tryz.func5
    (ChangeSpec.witness6 (enc := enc) (C := Tryz.checked) false ⟨#[], #[.agg #[.int .i64 0, .int .i64 0, .int .i64 0, .int .i64 0, .int .i64 0, .int .i64 0], .agg #[.int .i64 0, .int .i64 0], .agg #[.int .i64 0, .int .i64 0], .agg #[.int .i64 0, .int .i64 0], .agg #[.int .i64 0, .int .i64 0]], []⟩ 8 (by kernel_rfl) (by kernel_rfl) (by kernel_rfl) (by kernel_rfl)) ?_
  intro W base args ds gs before hval0 hW hcnd _
  have hval : ∀ (j : Nat) t v, Tryz.f5.params[j]? = some t → args[j]? = some v → Value.okWide Tryz.prog W .any base t v := hval0
  have hW' := hW
  obtain ⟨p, q, hA0, hV, rfl, hfz, hnd⟩ := hW
  have hA : DataW.TrodAll enc Tryz.prog W 0 (fun _ => true) true Tryz.f5.params.toList args.toList ds p := hA0
  rw [Tryz.params5] at hA hval
  obtain ⟨v0, vs0, d0, ds0, p0, q0, hargs, rfl, rfl, h0, r0⟩ := trodAll_cons hA
  obtain ⟨v1, vs1, d1, ds1, p1, q1, rfl, rfl, rfl, h1, r1⟩ := trodAll_cons r0
  obtain ⟨v2, vs2, d2, ds2, p2, q2, rfl, rfl, rfl, h2, r2⟩ := trodAll_cons r1
  obtain ⟨v3, vs3, d3, ds3, p3, q3, rfl, rfl, rfl, h3, r3⟩ := trodAll_cons r2
  obtain ⟨v4, vs4, d4, ds4, p4, q4, rfl, rfl, rfl, h4, r4⟩ := trodAll_cons r3
  obtain ⟨rfl, rfl, rfl⟩ := trodAll_nil r4
  obtain ⟨rfl, rfl⟩ := trodVars_none hV
  obtain rfl : args = #[v0, v1, v2, v3, v4] := by cases args; simp_all
  obtain ⟨f0, h0⟩ := h0
  obtain ⟨f1, h1⟩ := h1
  obtain ⟨f2, h2⟩ := h2
  obtain ⟨f3, h3⟩ := h3
  obtain ⟨f4, h4⟩ := h4
  obtain ⟨x0, k0⟩ := methods.r51 _ _ _ _ _ _ h0
  obtain ⟨x1, k1⟩ := methods.r50 _ _ _ _ _ _ h1
  obtain ⟨x2, k2⟩ := methods.r50 _ _ _ _ _ _ h2
  obtain ⟨x3, k3⟩ := methods.r50 _ _ _ _ _ _ h3
  obtain ⟨x4, k4⟩ := methods.r50 _ _ _ _ _ _ h4
  have e0 := Z4f (A := Zu (Zu (Zb .i64) (Zb .i64)) (Zu (Zu (Zb .i64) (Zb .i64)) (Zu (Zb .i64) (Zb .i64)))) rfl (.inr ⟨_, _, Tryz.underlying51⟩) (hval 0 51 v0 rfl rfl)
  have e1 := Z4f (A := Zu (Zb .i64) (Zb .i64)) rfl (.inl ⟨_, Tryz.underlying50⟩) (hval 1 50 v1 rfl rfl)
  have e2 := Z4f (A := Zu (Zb .i64) (Zb .i64)) rfl (.inl ⟨_, Tryz.underlying50⟩) (hval 2 50 v2 rfl rfl)
  have e3 := Z4f (A := Zu (Zb .i64) (Zb .i64)) rfl (.inl ⟨_, Tryz.underlying50⟩) (hval 3 50 v3 rfl rfl)
  have e4 := Z4f (A := Zu (Zb .i64) (Zb .i64)) rfl (.inl ⟨_, Tryz.underlying50⟩) (hval 4 50 v4 rfl rfl)
  obtain ⟨a0, b0, c0⟩ : Eng.i64 x0.1 ∧ Eng.i64 x0.2.1 ∧ Eng.i64 x0.2.2 := by
    obtain ⟨_, _, _, g1, _, _, _, g2, g3⟩ := k0
    exact ⟨methods.i64 g1, methods.i64 g2, methods.i64 g3⟩
  have hm := ZIm a0 b0 c0 (methods.i64 k1) (methods.i64 k2) (methods.i64 k3) (methods.i64 k4)
  have hw := Zfo (Zmo W) k0 k1 k2 k3 k4 hm
  rw [← e0, ← e1, ← e2, ← e3, ← e4] at hw
  refine Calls.mono hw fun e W' ⟨r, v', he, hx, _, hr⟩ => ?_
  obtain ⟨r0, rfl, hb⟩ := hr
  obtain rfl : r0 = [.bool true] := hb
  exact ⟨_, he, Z1n methods.laidOut (by decide +kernel) Tryz.underlying4 rfl rfl rfl rfl rfl hW' hx⟩
theorem methods_holds : Rows.TrialMethodsSaid :=
  OpenClaim.holds_of_wide 5 Tryz.f5 rfl rfl rfl rfl rfl rfl rfl ⟨rfl, rfl, rfl, rfl, rfl⟩ rfl rfl rfl rfl rfl (by kernel_rfl) Tryz.func5 (by kernel_rfl)
    (of_decide_eq_true (by kernel_rfl)) (by unfold Func.isWrapper; first | (rw [if_pos (by decide +kernel)]; kernel_rfl) | (rw [if_neg (by decide +kernel)]; exact ⟨rfl, rfl⟩))
    (fun os started H enc _ => Z2n os started H enc)
end Go.Proofs.YtmmnpljhffbjhaaGreat
