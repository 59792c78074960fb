/- TrialKept: for every input the call returns true, and each argument reads afterwards as it read before. Conditions: none (the given statement). -/
import Derived.Test.YtmmnpljhffbjhaaGreatRows
import Derived.WalkKit
import Derived.ProofKit
import Derived.Test.YtmmnpljhffbjhaaGreatKpF
namespace Go.Proofs.YtmmnpljhffbjhaaGreat
open Go.ChangeShapes Go.WideShapes Go.ChangeAt Go.RowKit Go.Eng
theorem kept.own : ownKnob Tryz.prog.godebug = none := by kernel_rfl
theorem kept.laidOut : laidOutB Tryz.prog = true := by kernel_rfl
theorem kept.r50 : ZGd Tryz.prog 50 (Zs (Za .i64) (Za .i64)) := ZMk Tryz.underlying50 (ZFj Tryz.underlying2) (ZFj Tryz.underlying2) rfl (by kernel_rfl) rfl (by kernel_rfl) (by kernel_rfl)
theorem kept.r98 : ZGd Tryz.prog 98 (Zs (Zs (Za .i64) (Za .i64)) (Zs (Za .i64) (Za .i64))) := ZMk Tryz.underlying98 kept.r50 kept.r50 rfl (by kernel_rfl) rfl (by kernel_rfl) (by kernel_rfl)
theorem kept.r95 : ZCi Tryz.prog 95 (Zs (Zt (Zs (Zs (Za .i64) (Za .i64)) (Zs (Za .i64) (Za .i64)))) (Zt (Zs (Zs (Za .i64) (Za .i64)) (Zs (Za .i64) (Za .i64))))) (fun p => p.1.length ≤ 1048576 ∧ p.2.length ≤ 1048576) := ZNn Tryz.underlying95 (ZLp Tryz.underlying94 kept.r98 (by kernel_rfl) (by decide)) (by kernel_rfl) (by kernel_rfl)
theorem kept.r5 : ZGd Tryz.prog 5 (Za .u8) := ZFj Tryz.underlying5
set_option maxRecDepth 100000 in
theorem Zmn (os : Os) (started : os.Started) (H : Type) (enc : TypeId × Value → H) (F : Stop.Interp) :
    ReturnsInHanded {} Tryz.checked os 10 .any ((Rows.OpenSpec.upto Rows.trialKeptSpec).pre6 enc Tryz.prog Tryz.f10 Rows.trialKeptUptoRow.domain false) (((Rows.OpenSpec.upto Rows.trialKeptSpec).at F).post enc Tryz.prog Tryz.f10 false true false false) := by
  refine returnsInHanded_of_cond (C := Tryz.checked) (s := (Rows.OpenSpec.upto Rows.trialKeptSpec)) (k := Rows.uptoSmall) rfl kept.own started (by kernel_rfl) Tryz.func10
    (OpenSpec.witness (enc := enc) (C := Tryz.checked) (s := (Rows.OpenSpec.upto Rows.trialKeptSpec)) (k := Rows.uptoSmall) rfl false ⟨#[], #[.agg #[.int .i64 0, .int .i64 0], .agg #[.int .i64 0, .int .i64 0], .agg #[.slice none 0 0, .slice none 0 0], .int .u8 0, .agg #[.int .i64 0, .int .i64 0], .agg #[.int .i64 0, .int .i64 0]], []⟩ 8 (by kernel_rfl) (by kernel_rfl) (by kernel_rfl) (x := ([.agg [.lit (.int .i64 0), .lit (.int .i64 0)], .agg [.lit (.int .i64 0), .lit (.int .i64 0)], .agg [.nil, .nil], .lit (.int .u8 0), .agg [.lit (.int .i64 0), .lit (.int .i64 0)], .agg [.lit (.int .i64 0), .lit (.int .i64 0)]], [], [])) (by kernel_rfl) rfl (by kernel_rfl)) ?_
  intro W base args ds gs before hval0 hW hcnd hz _
  have hval : ∀ (j : Nat) t v, Tryz.f10.params[j]? = some t → args[j]? = some v → Value.okWide Tryz.prog W .any base t v := hval0
  have hW' := hW
  obtain ⟨p, q, hA0, hV, rfl, hfz, hnd⟩ := hW
  have hA : DataW.TrodAll enc Tryz.prog W 0 (fun _ => true) true Tryz.f10.params.toList args.toList ds p := hA0
  rw [Tryz.params10] at hA hval
  obtain ⟨v0, vs0, d0, ds0, p0, q0, hargs, rfl, rfl, h0, r0⟩ := trodAll_cons hA
  obtain ⟨v1, vs1, d1, ds1, p1, q1, rfl, rfl, rfl, h1, r1⟩ := trodAll_cons r0
  obtain ⟨v2, vs2, d2, ds2, p2, q2, rfl, rfl, rfl, h2, r2⟩ := trodAll_cons r1
  obtain ⟨v3, vs3, d3, ds3, p3, q3, rfl, rfl, rfl, h3, r3⟩ := trodAll_cons r2
  obtain ⟨v4, vs4, d4, ds4, p4, q4, rfl, rfl, rfl, h4, r4⟩ := trodAll_cons r3
  obtain ⟨v5, vs5, d5, ds5, p5, q5, rfl, rfl, rfl, h5, r5⟩ := trodAll_cons r4
  obtain ⟨rfl, rfl, rfl⟩ := trodAll_nil r5
  obtain ⟨rfl, rfl⟩ := trodVars_none hV
  obtain rfl : args = #[v0, v1, v2, v3, v4, v5] := by cases args; simp_all
  obtain ⟨f0, h0⟩ := h0
  obtain ⟨f1, h1⟩ := h1
  obtain ⟨f2, h2⟩ := h2
  obtain ⟨f3, h3⟩ := h3
  obtain ⟨f4, h4⟩ := h4
  obtain ⟨f5, h5⟩ := h5
  obtain ⟨x0, k0⟩ := kept.r50 _ _ _ _ _ _ h0
  obtain ⟨x1, k1⟩ := kept.r50 _ _ _ _ _ _ h1
  obtain ⟨x2, k2, w2⟩ := kept.r95 _ _ _ _ _ _ h2
  have w2 := w2 (bulk_at hz (j := 2) rfl)
  obtain ⟨x3, k3⟩ := kept.r5 _ _ _ _ _ _ h3
  obtain ⟨x4, k4⟩ := kept.r50 _ _ _ _ _ _ h4
  obtain ⟨x5, k5⟩ := kept.r50 _ _ _ _ _ _ h5
  have e0 := Z7f (A := (Zs (Za .i64) (Za .i64))) rfl (.inl ⟨_, Tryz.underlying50⟩) (hval 0 50 v0 rfl rfl)
  have e1 := Z7f (A := (Zs (Za .i64) (Za .i64))) rfl (.inl ⟨_, Tryz.underlying50⟩) (hval 1 50 v1 rfl rfl)
  have e2 := Z7f (A := (Zs (Zt (Zs (Zs (Za .i64) (Za .i64)) (Zs (Za .i64) (Za .i64)))) (Zt (Zs (Zs (Za .i64) (Za .i64)) (Zs (Za .i64) (Za .i64)))))) rfl (.inr ⟨_, _, Tryz.underlying95⟩) (hval 2 95 v2 rfl rfl)
  have e3 := val_int (A := (Za .u8)) rfl Tryz.underlying5 (hval 3 5 v3 rfl rfl)
  have e4 := Z7f (A := (Zs (Za .i64) (Za .i64))) rfl (.inl ⟨_, Tryz.underlying50⟩) (hval 4 50 v4 rfl rfl)
  have e5 := Z7f (A := (Zs (Za .i64) (Za .i64))) rfl (.inl ⟨_, Tryz.underlying50⟩) (hval 5 50 v5 rfl rfl)
  obtain ⟨c30, c31, ec3, k30, k31⟩ := id k2
  obtain ⟨_, hu8⟩ := id k3
  have hm := ZMo x0 x1 x2 x3 x4 x5 (Zee k0) (Zee k1) (Zuj.1 hu8) (Zee k4) (Zee k5) (fun x hx => by obtain ⟨c, c1, c2, _, ha, hb⟩ := ZRm k30 hx; exact ⟨Zee ha, Zee hb⟩) (fun x hx => by obtain ⟨c, c1, c2, _, ha, hb⟩ := ZRm k31 hx; exact ⟨Zee ha, Zee hb⟩) w2.1 w2.2
  have hw := kept8_w (Zbp W) k0 k1 k2 k3 k4 k5 hm
  rw [← e0, ← e1, ← e2, ← e3, ← e4, ← e5] at hw
  refine Calls.mono hw fun e W' ⟨r, v', he, hx, _, hr⟩ => ?_
  obtain ⟨r0, rfl, hb⟩ := hr
  obtain rfl : r0 = [.bool true] := hb
  exact ⟨_, he, ZIq kept.laidOut (by decide +kernel) Tryz.underlying4 rfl rfl rfl rfl rfl hW' hx⟩
theorem kept_holds : Rows.TrialKeptUptoSaid :=
  OpenClaim.holds_of_cond 10 Tryz.f10 rfl rfl rfl rfl rfl rfl rfl ⟨rfl, rfl, rfl, rfl, rfl⟩ rfl rfl rfl rfl rfl (by kernel_rfl) Tryz.func10 (by kernel_rfl)
    (of_decide_eq_true (by kernel_rfl)) (by unfold Func.isWrapper; first | (rw [if_pos (by decide +kernel)]; kernel_rfl) | (rw [if_neg (by decide +kernel)]; exact ⟨rfl, rfl⟩))
    (fun os started H enc _ F => Zmn os started H enc F)
end Go.Proofs.YtmmnpljhffbjhaaGreat
