/- TrialRolls: for every input the call returns true, and each argument reads afterwards as it read before. Conditions: none (the given statement). -/
import Derived.Test.YtmmnpljhffbjhaaGreatRows
import Derived.WalkKit
import Derived.ProofKit
import Derived.Test.YtmmnpljhffbjhaaGreatRoF
namespace Go.Proofs.YtmmnpljhffbjhaaGreat
open Go.ChangeShapes Go.WideShapes Go.ChangeAt Go.RowKit Go.Eng
theorem rolls.own : ownKnob Tryz.prog.godebug = none := by kernel_rfl
theorem rolls.laidOut : laidOutB Tryz.prog = true := by kernel_rfl
theorem rolls.r50 : ZDe Tryz.prog 50 (Zt (Za .i64) (Za .i64)) := Z1n Tryz.underlying50 (ZYk Tryz.underlying2) (ZYk Tryz.underlying2) rfl (by kernel_rfl) rfl (by kernel_rfl) (by kernel_rfl)
theorem rolls.r51 : ZDe Tryz.prog 51 (Zt (Zt (Za .i64) (Za .i64)) (Zt (Zt (Za .i64) (Za .i64)) (Zt (Za .i64) (Za .i64)))) := Zeq Tryz.underlying51 rolls.r50 (by kernel_rfl) (by kernel_rfl)
set_option maxRecDepth 100000 in
theorem Zhp (os : Os) (started : os.Started) (H : Type) (enc : TypeId × Value → H) :
    ReturnsInHanded {} Tryz.checked os 6 .any (Rows.trialRollsSpec.pre6 enc Tryz.prog Tryz.f6 Rows.trialRollsRow.domain false) (Rows.trialRollsSpec.post enc Tryz.prog Tryz.f6 false true false false) := by
  refine returnsInHanded_of_change (C := Tryz.checked) rolls.own started (by kernel_rfl) Tryz.func6
    (ChangeSpec.witness6 (enc := enc) (C := Tryz.checked) false ⟨#[], #[.agg #[.int .i64 0, .int .i64 0, .int .i64 0, .int .i64 0, .int .i64 0, .int .i64 0], .agg #[.int .i64 0, .int .i64 0], .agg #[.int .i64 0, .int .i64 0], .agg #[.int .i64 0, .int .i64 0]], []⟩ 8 (by kernel_rfl) (by kernel_rfl) (by kernel_rfl) (by kernel_rfl)) ?_
  intro W base args ds gs before hval0 hW hcnd _
  have hval : ∀ (j : Nat) t v, Tryz.f6.params[j]? = some t → args[j]? = some v → Value.okWide Tryz.prog W .any base t v := hval0
  have hW' := hW
  obtain ⟨p, q, hA0, hV, rfl, hfz, hnd⟩ := hW
  have hA : DataW.TrodAll enc Tryz.prog W 0 (fun _ => true) true Tryz.f6.params.toList args.toList ds p := hA0
  rw [Tryz.params6] at hA hval
  obtain ⟨v0, vs0, d0, ds0, p0, q0, hargs, rfl, rfl, h0, r0⟩ := trodAll_cons hA
  obtain ⟨v1, vs1, d1, ds1, p1, q1, rfl, rfl, rfl, h1, r1⟩ := trodAll_cons r0
  obtain ⟨v2, vs2, d2, ds2, p2, q2, rfl, rfl, rfl, h2, r2⟩ := trodAll_cons r1
  obtain ⟨v3, vs3, d3, ds3, p3, q3, rfl, rfl, rfl, h3, r3⟩ := trodAll_cons r2
  obtain ⟨rfl, rfl, rfl⟩ := trodAll_nil r3
  obtain ⟨rfl, rfl⟩ := trodVars_none hV
  obtain rfl : args = #[v0, v1, v2, v3] := by cases args; simp_all
  obtain ⟨f0, h0⟩ := h0
  obtain ⟨f1, h1⟩ := h1
  obtain ⟨f2, h2⟩ := h2
  obtain ⟨f3, h3⟩ := h3
  obtain ⟨x0, k0⟩ := rolls.r51 _ _ _ _ _ _ h0
  obtain ⟨x1, k1⟩ := rolls.r50 _ _ _ _ _ _ h1
  obtain ⟨x2, k2⟩ := rolls.r50 _ _ _ _ _ _ h2
  obtain ⟨x3, k3⟩ := rolls.r50 _ _ _ _ _ _ h3
  have e0 := ZSi (A := (Zt (Zt (Za .i64) (Za .i64)) (Zt (Zt (Za .i64) (Za .i64)) (Zt (Za .i64) (Za .i64))))) rfl (.inr ⟨_, _, Tryz.underlying51⟩) (hval 0 51 v0 rfl rfl)
  have e1 := ZSi (A := (Zt (Za .i64) (Za .i64))) rfl (.inl ⟨_, Tryz.underlying50⟩) (hval 1 50 v1 rfl rfl)
  have e2 := ZSi (A := (Zt (Za .i64) (Za .i64))) rfl (.inl ⟨_, Tryz.underlying50⟩) (hval 2 50 v2 rfl rfl)
  have e3 := ZSi (A := (Zt (Za .i64) (Za .i64))) rfl (.inl ⟨_, Tryz.underlying50⟩) (hval 3 50 v3 rfl rfl)
  obtain ⟨_, _, _, ka, _, _, _, kb, kc⟩ := id k0
  have hm := Z8m x0 x1 x2 x3 (ZQf ka) (ZQf kb) (ZQf kc) (ZQf k1) (ZQf k2) (ZQf k3)
  have hw := Zqq (Zmp W) k0 k1 k2 k3 hm
  rw [← e0, ← e1, ← e2, ← e3] at hw
  refine Calls.mono hw fun e W' ⟨r, v', he, hx, _, hr⟩ => ?_
  obtain ⟨r0, rfl, hb⟩ := hr
  obtain rfl : r0 = [.bool true] := hb
  exact ⟨_, he, Zkp rolls.laidOut (by decide +kernel) Tryz.underlying4 rfl rfl rfl rfl rfl hW' hx⟩
theorem rolls_holds : Rows.TrialRollsSaid :=
  OpenClaim.holds_of_wide 6 Tryz.f6 rfl rfl rfl rfl rfl rfl rfl ⟨rfl, rfl, rfl, rfl, rfl⟩ rfl rfl rfl rfl rfl (by kernel_rfl) Tryz.func6 (by kernel_rfl)
    (of_decide_eq_true (by kernel_rfl)) (by unfold Func.isWrapper; first | (rw [if_pos (by decide +kernel)]; kernel_rfl) | (rw [if_neg (by decide +kernel)]; exact ⟨rfl, rfl⟩))
    (fun os started H enc _ => Zhp os started H enc)
end Go.Proofs.YtmmnpljhffbjhaaGreat
