/- TrialLabels: for every input the call returns true, and each argument reads afterwards as it read before. Conditions: none (the given statement). -/
import Derived.Test.YtmmnpljhffbjhaaGreatRows
import Derived.WalkKit
import Derived.ProofKit
import Derived.Test.YtmmnpljhffbjhaaGreatLbG
namespace Go.Proofs.YtmmnpljhffbjhaaGreat
open Go.ChangeShapes Go.WideShapes Go.ChangeAt Go.RowKit Go.Eng
theorem labels.own : ownKnob Tryz.prog.godebug = none := by kernel_rfl
theorem labels.laidOut : laidOutB Tryz.prog = true := by kernel_rfl
theorem labels.r50 : ZUd Tryz.prog 50 (Zt (Za .i64) (Za .i64)) := ZDl Tryz.underlying50 (ZGk Tryz.underlying2) (ZGk Tryz.underlying2) rfl (by kernel_rfl) rfl (by kernel_rfl) (by kernel_rfl)
theorem labels.r98 : ZUd Tryz.prog 98 (Zt (Zt (Za .i64) (Za .i64)) (Zt (Za .i64) (Za .i64))) := ZDl Tryz.underlying98 labels.r50 labels.r50 rfl (by kernel_rfl) rfl (by kernel_rfl) (by kernel_rfl)
theorem labels.r95 : Zqj Tryz.prog 95 (Zt (Zs (Zt (Zt (Za .i64) (Za .i64)) (Zt (Za .i64) (Za .i64)))) (Zs (Zt (Zt (Za .i64) (Za .i64)) (Zt (Za .i64) (Za .i64))))) (fun p => p.1.length * 32 ≤ reachBytes ∧ p.2.length * 32 ≤ reachBytes) := ZEp Tryz.underlying95 (ZNq Tryz.underlying94 labels.r98 (by kernel_rfl) (by decide) (by kernel_rfl)) (by kernel_rfl) (by kernel_rfl)
theorem labels.r3 : ZUd Tryz.prog 3 (Za .i64) := ZGk Tryz.underlying3
set_option maxRecDepth 100000 in
theorem ZQq (os : Os) (started : os.Started) (H : Type) (enc : TypeId × Value → H) :
    ReturnsInHanded {} Tryz.checked os 9 .any (Rows.trialLabelsSpec.pre6 enc Tryz.prog Tryz.f9 Rows.trialLabelsRow.domain false) (Rows.trialLabelsSpec.post enc Tryz.prog Tryz.f9 false true false false) := by
  refine returnsInHanded_of_change_sized (C := Tryz.checked) labels.own started (by kernel_rfl) Tryz.func9
    (ChangeSpec.witness6 (enc := enc) (C := Tryz.checked) false ⟨#[], #[.agg #[.int .i64 0, .int .i64 0], .agg #[.int .i64 0, .int .i64 0], .agg #[.int .i64 0, .int .i64 0], .agg #[.slice none 0 0, .slice none 0 0], .int .i64 0], []⟩ 8 (by kernel_rfl) (by kernel_rfl) (by kernel_rfl) (by kernel_rfl)) ?_
  intro W base args ds gs before hval0 hW hcnd hz _
  have hval : ∀ (j : Nat) t v, Tryz.f9.params[j]? = some t → args[j]? = some v → Value.okWide Tryz.prog W .any base t v := hval0
  have hW' := hW
  obtain ⟨p, q, hA0, hV, rfl, hfz, hnd⟩ := hW
  have hA : DataW.TrodAll enc Tryz.prog W 0 (fun _ => true) true Tryz.f9.params.toList args.toList ds p := hA0
  rw [Tryz.params9] at hA hval
  obtain ⟨v0, vs0, d0, ds0, p0, q0, hargs, rfl, rfl, h0, r0⟩ := trodAll_cons hA
  obtain ⟨v1, vs1, d1, ds1, p1, q1, rfl, rfl, rfl, h1, r1⟩ := trodAll_cons r0
  obtain ⟨v2, vs2, d2, ds2, p2, q2, rfl, rfl, rfl, h2, r2⟩ := trodAll_cons r1
  obtain ⟨v3, vs3, d3, ds3, p3, q3, rfl, rfl, rfl, h3, r3⟩ := trodAll_cons r2
  obtain ⟨v4, vs4, d4, ds4, p4, q4, rfl, rfl, rfl, h4, r4⟩ := trodAll_cons r3
  obtain ⟨rfl, rfl, rfl⟩ := trodAll_nil r4
  obtain ⟨rfl, rfl⟩ := trodVars_none hV
  obtain rfl : args = #[v0, v1, v2, v3, v4] := by cases args; simp_all
  obtain ⟨f0, h0⟩ := h0
  obtain ⟨f1, h1⟩ := h1
  obtain ⟨f2, h2⟩ := h2
  obtain ⟨f3, h3⟩ := h3
  obtain ⟨f4, h4⟩ := h4
  obtain ⟨x0, k0⟩ := labels.r50 _ _ _ _ _ _ h0
  obtain ⟨x1, k1⟩ := labels.r50 _ _ _ _ _ _ h1
  obtain ⟨x2, k2⟩ := labels.r50 _ _ _ _ _ _ h2
  obtain ⟨x3, k3, w3⟩ := labels.r95 _ _ _ _ _ _ h3
  have w3 := w3 (Zxo hz (j := 3) rfl rfl)
  obtain ⟨x4, k4⟩ := labels.r3 _ _ _ _ _ _ h4
  have e0 := Zti (A := (Zt (Za .i64) (Za .i64))) rfl (.inl ⟨_, Tryz.underlying50⟩) (hval 0 50 v0 rfl rfl)
  have e1 := Zti (A := (Zt (Za .i64) (Za .i64))) rfl (.inl ⟨_, Tryz.underlying50⟩) (hval 1 50 v1 rfl rfl)
  have e2 := Zti (A := (Zt (Za .i64) (Za .i64))) rfl (.inl ⟨_, Tryz.underlying50⟩) (hval 2 50 v2 rfl rfl)
  have e3 := Zti (A := (Zt (Zs (Zt (Zt (Za .i64) (Za .i64)) (Zt (Za .i64) (Za .i64)))) (Zs (Zt (Zt (Za .i64) (Za .i64)) (Zt (Za .i64) (Za .i64)))))) rfl (.inr ⟨_, _, Tryz.underlying95⟩) (hval 3 95 v3 rfl rfl)
  have e4 := val_int (A := (Za .i64)) rfl Tryz.underlying3 (hval 4 3 v4 rfl rfl)
  obtain ⟨c30, c31, ec3, k30, k31⟩ := id k3
  have hm := Zkq x0 x1 x2 x3 x4 (Zkf k0) (Zkf k1) (Zkf k2) (fun x hx => by obtain ⟨c, c1, c2, _, ha, hb⟩ := Zll k30 hx; exact ⟨Zkf ha, Zkf hb⟩) (fun x hx => by obtain ⟨c, c1, c2, _, ha, hb⟩ := Zll k31 hx; exact ⟨Zkf ha, Zkf hb⟩) w3.1
  have hw := ZPp (Zwr W) k0 k1 k2 k3 k4 hm
  rw [← e0, ← e1, ← e2, ← e3, ← e4] at hw
  refine Calls.mono hw fun e W' ⟨r, v', he, hx, _, hr⟩ => ?_
  obtain ⟨r0, rfl, hb⟩ := hr
  obtain rfl : r0 = [.bool true] := hb
  exact ⟨_, he, Zfo labels.laidOut (by decide +kernel) Tryz.underlying4 rfl rfl rfl rfl rfl hW' hx⟩
theorem labels_holds : Rows.TrialLabelsSaid :=
  OpenClaim.holds_of_wide 9 Tryz.f9 rfl rfl rfl rfl rfl rfl rfl ⟨rfl, rfl, rfl, rfl, rfl⟩ rfl rfl rfl rfl rfl (by kernel_rfl) Tryz.func9 (by kernel_rfl)
    (of_decide_eq_true (by kernel_rfl)) (by unfold Func.isWrapper; first | (rw [if_pos (by decide +kernel)]; kernel_rfl) | (rw [if_neg (by decide +kernel)]; exact ⟨rfl, rfl⟩))
    (fun os started H enc _ => ZQq os started H enc)
end Go.Proofs.YtmmnpljhffbjhaaGreat
