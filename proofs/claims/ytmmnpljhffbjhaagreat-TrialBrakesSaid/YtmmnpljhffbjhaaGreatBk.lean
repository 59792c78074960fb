/- TrialBrakes: for every input the call returns true, and each argument reads afterwards as it read before. Conditions: none (the given statement). -/
import Derived.Test.YtmmnpljhffbjhaaGreatRows
import Derived.WalkKit
import Derived.ProofKit
import Derived.Test.YtmmnpljhffbjhaaGreatBkF
namespace Go.Proofs.YtmmnpljhffbjhaaGreat
open Go.ChangeShapes Go.WideShapes Go.ChangeAt Go.RowKit Go.Eng
theorem brakes.own : ownKnob Tryz.prog.godebug = none := by kernel_rfl
theorem brakes.laidOut : laidOutB Tryz.prog = true := by kernel_rfl
theorem brakes.r50 : Zvd Tryz.prog 50 (ZA (Zb .i64) (Zb .i64)) := Z0k Tryz.underlying50 (Zel Tryz.underlying2) (Zel Tryz.underlying2) rfl (by kernel_rfl) rfl (by kernel_rfl) (by kernel_rfl)
theorem brakes.r196 : Zvd Tryz.prog 196 (ZA ZQ (ZA (Zb .i64) (Zb .i64))) := Z0k Tryz.underlying196 (Zen Tryz.underlying4) brakes.r50 rfl (by kernel_rfl) rfl (by kernel_rfl) (by kernel_rfl)
theorem brakes.r75 : Zvd Tryz.prog 75 (Zu (ZA ZQ (ZA (Zb .i64) (Zb .i64)))) := Zmo Tryz.underlying75 brakes.r196 (by kernel_rfl) (by decide)
set_option maxRecDepth 100000 in
theorem ZRp (os : Os) (started : os.Started) (H : Type) (enc : TypeId × Value → H) :
    ReturnsInHanded {} Tryz.checked os 7 .any (Rows.trialBrakesSpec.pre6 enc Tryz.prog Tryz.f7 Rows.trialBrakesRow.domain false) (Rows.trialBrakesSpec.post enc Tryz.prog Tryz.f7 false true false false) := by
  refine returnsInHanded_of_change (C := Tryz.checked) brakes.own started (by kernel_rfl) Tryz.func7
    (ChangeSpec.witness6 (enc := enc) (C := Tryz.checked) false ⟨#[], #[.slice none 0 0], []⟩ 8 (by kernel_rfl) (by kernel_rfl) (by kernel_rfl) (by kernel_rfl)) ?_
  intro W base args ds gs before hval0 hW hcnd _
  have hval : ∀ (j : Nat) t v, Tryz.f7.params[j]? = some t → args[j]? = some v → Value.okWide Tryz.prog W .any base t v := hval0
  have hW' := hW
  obtain ⟨p, q, hA0, hV, rfl, hfz, hnd⟩ := hW
  have hA : DataW.TrodAll enc Tryz.prog W 0 (fun _ => true) true Tryz.f7.params.toList args.toList ds p := hA0
  rw [Tryz.params7] at hA hval
  obtain ⟨v0, vs0, d0, ds0, p0, q0, hargs, rfl, rfl, h0, r0⟩ := trodAll_cons hA
  obtain ⟨rfl, rfl, rfl⟩ := trodAll_nil r0
  obtain ⟨rfl, rfl⟩ := trodVars_none hV
  obtain rfl : args = #[v0] := by cases args; simp_all
  obtain ⟨f0, h0⟩ := h0
  obtain ⟨x0, k0⟩ := brakes.r75 _ _ _ _ _ _ h0
  have e0 := Zjo (A := (Zu (ZA ZQ (ZA (Zb .i64) (Zb .i64))))) rfl Tryz.underlying75 (hval 0 75 v0 rfl rfl)
  have hm := ZBo x0 (fun x hx => by obtain ⟨c, c1, c2, _, _, hc⟩ := Zxo k0 hx; exact i64_of hc)
  have hw := ZPm (Zum W) k0 hm
  rw [← e0] at hw
  refine Calls.mono hw fun e W' ⟨r, v', he, hx, _, hr⟩ => ?_
  obtain ⟨r0, rfl, hb⟩ := hr
  obtain rfl : r0 = [.bool true] := hb
  exact ⟨_, he, Zwo brakes.laidOut (by decide +kernel) Tryz.underlying4 rfl rfl rfl rfl rfl hW' hx⟩
theorem brakes_holds : Rows.TrialBrakesSaid :=
  OpenClaim.holds_of_wide 7 Tryz.f7 rfl rfl rfl rfl rfl rfl rfl ⟨rfl, rfl, rfl, rfl, rfl⟩ rfl rfl rfl rfl rfl (by kernel_rfl) Tryz.func7 (by kernel_rfl)
    (of_decide_eq_true (by kernel_rfl)) (by unfold Func.isWrapper; first | (rw [if_pos (by decide +kernel)]; kernel_rfl) | (rw [if_neg (by decide +kernel)]; exact ⟨rfl, rfl⟩))
    (fun os started H enc _ => ZRp os started H enc)
end Go.Proofs.YtmmnpljhffbjhaaGreat
