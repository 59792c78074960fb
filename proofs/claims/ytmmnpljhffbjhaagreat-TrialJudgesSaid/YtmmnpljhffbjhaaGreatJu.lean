/- TrialJudges: for every input the call returns true, and each argument reads afterwards as it read before. Conditions: none (the given statement). -/
import Derived.Test.YtmmnpljhffbjhaaGreatRows
import Derived.WalkKit
import Derived.ProofKit
import Derived.Test.YtmmnpljhffbjhaaGreatJuG
namespace Go.Proofs.YtmmnpljhffbjhaaGreat
open Go.ChangeShapes Go.WideShapes Go.ChangeAt Go.RowKit Go.Eng
theorem judges.own : ownKnob Tryz.prog.godebug = none := by kernel_rfl
theorem judges.laidOut : laidOutB Tryz.prog = true := by kernel_rfl
theorem judges.r50 : Zge Tryz.prog 50 (Zs (Za .i64) (Za .i64)) := ZXl Tryz.underlying50 (Zdm Tryz.underlying2) (Zdm Tryz.underlying2) rfl (by kernel_rfl) rfl (by kernel_rfl) (by kernel_rfl)
theorem judges.r98 : Zge Tryz.prog 98 (Zs (Zs (Za .i64) (Za .i64)) (Zs (Za .i64) (Za .i64))) := ZXl Tryz.underlying98 judges.r50 judges.r50 rfl (by kernel_rfl) rfl (by kernel_rfl) (by kernel_rfl)
theorem judges.r94 : Zge Tryz.prog 94 (Zu (Zs (Zs (Za .i64) (Za .i64)) (Zs (Za .i64) (Za .i64)))) := Zdo Tryz.underlying94 judges.r98 (by kernel_rfl) (by decide)
set_option maxRecDepth 100000 in
theorem ZRn (os : Os) (started : os.Started) (H : Type) (enc : TypeId × Value → H) :
    ReturnsInHanded {} Tryz.checked os 12 .any (Rows.trialJudgesSpec.pre6 enc Tryz.prog Tryz.f12 Rows.trialJudgesRow.domain false) (Rows.trialJudgesSpec.post enc Tryz.prog Tryz.f12 false true false false) := by
  refine returnsInHanded_of_change (C := Tryz.checked) judges.own started (by kernel_rfl) Tryz.func12
    (ChangeSpec.witness6 (enc := enc) (C := Tryz.checked) false ⟨#[], #[.slice none 0 0, .slice none 0 0, .agg #[.int .i64 0, .int .i64 0], .agg #[.int .i64 0, .int .i64 0]], []⟩ 8 (by kernel_rfl) (by kernel_rfl) (by kernel_rfl) (by kernel_rfl)) ?_
  intro W base args ds gs before hval0 hW hcnd _
  have hval : ∀ (j : Nat) t v, Tryz.f12.params[j]? = some t → args[j]? = some v → Value.okWide Tryz.prog W .any base t v := hval0
  have hW' := hW
  obtain ⟨p, q, hA0, hV, rfl, hfz, hnd⟩ := hW
  have hA : DataW.TrodAll enc Tryz.prog W 0 (fun _ => true) true Tryz.f12.params.toList args.toList ds p := hA0
  rw [Tryz.params12] at hA hval
  obtain ⟨v0, vs0, d0, ds0, p0, q0, hargs, rfl, rfl, h0, r0⟩ := trodAll_cons hA
  obtain ⟨v1, vs1, d1, ds1, p1, q1, rfl, rfl, rfl, h1, r1⟩ := trodAll_cons r0
  obtain ⟨v2, vs2, d2, ds2, p2, q2, rfl, rfl, rfl, h2, r2⟩ := trodAll_cons r1
  obtain ⟨v3, vs3, d3, ds3, p3, q3, rfl, rfl, rfl, h3, r3⟩ := trodAll_cons r2
  obtain ⟨rfl, rfl, rfl⟩ := trodAll_nil r3
  obtain ⟨rfl, rfl⟩ := trodVars_none hV
  obtain rfl : args = #[v0, v1, v2, v3] := by cases args; simp_all
  obtain ⟨f0, h0⟩ := h0
  obtain ⟨f1, h1⟩ := h1
  obtain ⟨f2, h2⟩ := h2
  obtain ⟨f3, h3⟩ := h3
  obtain ⟨x0, k0⟩ := judges.r94 _ _ _ _ _ _ h0
  obtain ⟨x1, k1⟩ := judges.r94 _ _ _ _ _ _ h1
  obtain ⟨x2, k2⟩ := judges.r50 _ _ _ _ _ _ h2
  obtain ⟨x3, k3⟩ := judges.r50 _ _ _ _ _ _ h3
  have e0 := ZUm (A := (Zu (Zs (Zs (Za .i64) (Za .i64)) (Zs (Za .i64) (Za .i64))))) rfl Tryz.underlying94 (hval 0 94 v0 rfl rfl)
  have e1 := ZUm (A := (Zu (Zs (Zs (Za .i64) (Za .i64)) (Zs (Za .i64) (Za .i64))))) rfl Tryz.underlying94 (hval 1 94 v1 rfl rfl)
  have e2 := Ztn (A := (Zs (Za .i64) (Za .i64))) rfl (.inl ⟨_, Tryz.underlying50⟩) (hval 2 50 v2 rfl rfl)
  have e3 := Ztn (A := (Zs (Za .i64) (Za .i64))) rfl (.inl ⟨_, Tryz.underlying50⟩) (hval 3 50 v3 rfl rfl)
  have hm := ZGq x0 x1 x2 x3 (fun x hx => by obtain ⟨c, c1, c2, _, ha, hb⟩ := ZDl k0 hx; exact ⟨Z7f ha, Z7f hb⟩) (fun x hx => by obtain ⟨c, c1, c2, _, ha, hb⟩ := ZDl k1 hx; exact ⟨Z7f ha, Z7f hb⟩) (Z7f k2) (Z7f k3)
  have hw := ZWn (ZPq W) k0 k1 k2 k3 hm
  rw [← e0, ← e1, ← e2, ← e3] at hw
  refine Calls.mono hw fun e W' ⟨r, v', he, hx, _, hr⟩ => ?_
  obtain ⟨r0, rfl, hb⟩ := hr
  obtain rfl : r0 = [.bool true] := hb
  exact ⟨_, he, Z2o judges.laidOut (by decide +kernel) Tryz.underlying4 rfl rfl rfl rfl rfl hW' hx⟩
theorem judges_holds : Rows.TrialJudgesSaid :=
  OpenClaim.holds_of_wide 12 Tryz.f12 rfl rfl rfl rfl rfl rfl rfl ⟨rfl, rfl, rfl, rfl, rfl⟩ rfl rfl rfl rfl rfl (by kernel_rfl) Tryz.func12 (by kernel_rfl)
    (of_decide_eq_true (by kernel_rfl)) (by unfold Func.isWrapper; first | (rw [if_pos (by decide +kernel)]; kernel_rfl) | (rw [if_neg (by decide +kernel)]; exact ⟨rfl, rfl⟩))
    (fun os started H enc _ => ZRn os started H enc)
end Go.Proofs.YtmmnpljhffbjhaaGreat
