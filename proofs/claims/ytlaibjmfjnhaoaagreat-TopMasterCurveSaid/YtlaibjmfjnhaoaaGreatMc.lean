/- TopMasterCurve: for every input the call returns true, and each argument reads afterwards as it read before. Conditions: none (the given statement). -/
import Derived.Test.YtlaibjmfjnhaoaaGreatRows
import Derived.WalkKit
import Derived.ProofKit
import Derived.Test.YtlaibjmfjnhaoaaGreatMcG
namespace Go.Proofs.YtlaibjmfjnhaoaaGreat
open Go.ChangeShapes Go.WideShapes Go.ChangeAt Go.RowKit Go.Eng
theorem mastercurve.own:ownKnob Tryz.prog.godebug = none := by kernel_rfl
theorem mastercurve.laidOut:laidOutB Tryz.prog = true := by kernel_rfl
theorem mastercurve.ru8:Zke Tryz.prog 5 (Zd .u8) := ZZi Tryz.underlying5
theorem mastercurve.ra2:Zke Tryz.prog 64 (Zda (Zd .u8) (Zd .u8)) := ZXs Tryz.underlying64 (ZZi Tryz.underlying5) (by kernel_rfl) (by kernel_rfl)
theorem mastercurve.rb2:Zke Tryz.prog 66 (Zda (Zd .i8) (Zd .i8)) := ZXs Tryz.underlying66 (ZZi Tryz.underlying65) (by kernel_rfl) (by kernel_rfl)
theorem mastercurve.ra3:Zke Tryz.prog 63 (Zda (Zd .u8) (Zda (Zd .u8) (Zd .u8))) := Z4t Tryz.underlying63 (ZZi Tryz.underlying5) (by kernel_rfl) (by kernel_rfl)
set_option maxRecDepth 100000 in
theorem ZPv (os:Os) (started:os.Started) (H:Type) (enc:TypeId×Value→H) :
    ReturnsInHanded {} Tryz.checked os 4 .any (Rows.topMasterCurveSpec.pre6 enc Tryz.prog Tryz.f4 Rows.topMasterCurveRow.domain false) (Rows.topMasterCurveSpec.post enc Tryz.prog Tryz.f4 false true false false) := by
  refine returnsInHanded_of_change (C := Tryz.checked) mastercurve.own started (by kernel_rfl) Tryz.func4
    (ChangeSpec.witness6 (enc := enc) (C := Tryz.checked) false ⟨#[], #[.int .u8 0, .agg #[.int .u8 0, .int .u8 0, .int .u8 0], .agg #[.int .u8 0, .int .u8 0], .int .u8 0, .agg #[.int .i8 0, .int .i8 0]], []⟩ 8 (by kernel_rfl) (by kernel_rfl) (by kernel_rfl) (by kernel_rfl)) ?_
  intro W base args ds gs before hval0 hW hcnd _
  have hval:∀ (j:Nat) t v, Tryz.f4.params[j]? = some t→args[j]? = some v→Value.okWide Tryz.prog W .any base t v := hval0
  have hW' := hW
  obtain ⟨p, q, hA0, hV, rfl, hfz, hnd⟩ := hW
  have hA:DataW.TrodAll enc Tryz.prog W 0 (fun _ => true) true Tryz.f4.params.toList args.toList ds p := hA0
  rw [Tryz.params4] at hA hval
  obtain ⟨v0, vs0, d0, ds0, p0, q0, hargs, rfl, rfl, h0, r0⟩ := trodAll_cons hA
  obtain ⟨v1, vs1, d1, ds1, p1, q1, rfl, rfl, rfl, h1, r1⟩ := trodAll_cons r0
  obtain ⟨v2, vs2, d2, ds2, p2, q2, rfl, rfl, rfl, h2, r2⟩ := trodAll_cons r1
  obtain ⟨v3, vs3, d3, ds3, p3, q3, rfl, rfl, rfl, h3, r3⟩ := trodAll_cons r2
  obtain ⟨v4, vs4, d4, ds4, p4, q4, rfl, rfl, rfl, h4, r4⟩ := trodAll_cons r3
  obtain ⟨rfl, rfl, rfl⟩ := trodAll_nil r4
  obtain ⟨rfl, rfl⟩ := trodVars_none hV
  obtain rfl:args = #[v0, v1, v2, v3, v4] := by cases args; simp_all
  obtain ⟨f0, h0⟩ := h0
  obtain ⟨f1, h1⟩ := h1
  obtain ⟨f2, h2⟩ := h2
  obtain ⟨f3, h3⟩ := h3
  obtain ⟨f4, h4⟩ := h4
  obtain ⟨x0, k0⟩ := mastercurve.ru8 _ _ _ _ _ _ h0
  obtain ⟨x1, k1⟩ := mastercurve.ra3 _ _ _ _ _ _ h1
  obtain ⟨x2, k2⟩ := mastercurve.ra2 _ _ _ _ _ _ h2
  obtain ⟨x3, k3⟩ := mastercurve.ru8 _ _ _ _ _ _ h3
  obtain ⟨x4, k4⟩ := mastercurve.rb2 _ _ _ _ _ _ h4
  have e0 := ZKq (A := (Zd .u8)) rfl Tryz.underlying5 (hval 0 5 v0 rfl rfl)
  have e1 := Zkl (A := (Zda (Zd .u8) (Zda (Zd .u8) (Zd .u8)))) rfl (.inr ⟨_, _, Tryz.underlying63⟩) (hval 1 63 v1 rfl rfl)
  have e2 := Zkl (A := (Zda (Zd .u8) (Zd .u8))) rfl (.inr ⟨_, _, Tryz.underlying64⟩) (hval 2 64 v2 rfl rfl)
  have e3 := ZKq (A := (Zd .u8)) rfl Tryz.underlying5 (hval 3 5 v3 rfl rfl)
  have e4 := Zkl (A := (Zda (Zd .i8) (Zd .i8))) rfl (.inr ⟨_, _, Tryz.underlying66⟩) (hval 4 66 v4 rfl rfl)
  obtain ⟨_, _, _, g11, _, _, _, g12, g13⟩ := id k1
  obtain ⟨_, _, _, g21, g22⟩ := id k2
  obtain ⟨_, _, _, g31, g32⟩ := id k4
  have hm := Zbx (rest := x0) (ws := x1) (fs := x2) (wh := x3) (off := x4) k0.2 g11.2 g12.2 g13.2 g21.2 g22.2 k3.2 g31.2 g32.2
  have hw := Zkw (ZQv W) k0 k1 k2 k3 k4 hm
  rw [← e0, ← e1, ← e2, ← e3, ← e4] at hw
  refine Calls.mono hw fun e W' ⟨r, v', he, hx, _, hr⟩ => ?_
  obtain ⟨r0, rfl, hb⟩ := hr
  obtain rfl:r0 = [.bool true] := hb
  exact ⟨_, he, Zmy mastercurve.laidOut (by decide +kernel) Tryz.underlying4 rfl rfl rfl rfl rfl hW' hx⟩
theorem mastercurve_holds:Rows.TopMasterCurveSaid :=
  OpenClaim.holds_of_wide 4 Tryz.f4 rfl rfl rfl rfl rfl rfl rfl ⟨rfl, rfl, rfl, rfl, rfl⟩ rfl rfl rfl rfl rfl (by kernel_rfl) Tryz.func4 (by kernel_rfl)
    (of_decide_eq_true (by kernel_rfl)) (by unfold Func.isWrapper; first | (rw [if_pos (by decide +kernel)]; kernel_rfl) | (rw [if_neg (by decide +kernel)]; exact ⟨rfl, rfl⟩))
    (fun os started H enc _ => ZPv os started H enc)
end Go.Proofs.YtlaibjmfjnhaoaaGreat
