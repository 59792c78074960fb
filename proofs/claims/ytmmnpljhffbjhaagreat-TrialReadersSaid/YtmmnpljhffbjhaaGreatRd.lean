/- TrialReaders: for every input the call returns true, and each argument reads afterwards as it read before. Conditions: none (the given statement). -/
import Derived.Test.YtmmnpljhffbjhaaGreatRows
import Derived.WalkKit
import Derived.ProofKit
import Derived.Test.YtmmnpljhffbjhaaGreatRdF
namespace Go.Proofs.YtmmnpljhffbjhaaGreat
open Go.ChangeShapes Go.WideShapes Go.ChangeAt Go.RowKit Go.Eng
theorem readers.own : ownKnob Tryz.prog.godebug = none := by kernel_rfl
theorem readers.laidOut : laidOutB Tryz.prog = true := by kernel_rfl
theorem readers.r28 : Zah Tryz.prog 28 (Zt (Za .i64)) := ZGl Tryz.underlying28 (ZYp Tryz.underlying3) (by kernel_rfl) (by decide)
theorem readers.r22 : Zah Tryz.prog 22 (Zt (Zt (Za .i64))) := ZGl Tryz.underlying22 readers.r28 (by kernel_rfl) (by decide)
set_option maxRecDepth 100000 in
theorem Zdq (os : Os) (started : os.Started) (H : Type) (enc : TypeId × Value → H) :
    ReturnsInHanded {} Tryz.checked os 4 .any (Rows.trialReadersSpec.pre6 enc Tryz.prog Tryz.f4 Rows.trialReadersRow.domain false) (Rows.trialReadersSpec.post enc Tryz.prog Tryz.f4 false true false false) := by
  refine returnsInHanded_of_change (C := Tryz.checked) readers.own started (by kernel_rfl) Tryz.func4
    (ChangeSpec.witness6 (enc := enc) (C := Tryz.checked) false ⟨#[], #[.slice none 0 0], []⟩ 8 (by kernel_rfl) (by kernel_rfl) (by kernel_rfl) (by kernel_rfl)) ?_
  intro W base args ds gs before hval0 hW hcnd _
  have hval : ∀ (j : Nat) t v, Tryz.f4.params[j]? = some t → args[j]? = some v → Value.okWide Tryz.prog W .any base t v := hval0
  have hW' := hW
  obtain ⟨p, q, hA0, hV, rfl, hfz, hnd⟩ := hW
  have hA : DataW.TrodAll enc Tryz.prog W 0 (fun _ => true) true Tryz.f4.params.toList args.toList ds p := hA0
  rw [Tryz.params4] at hA hval
  obtain ⟨v0, vs0, d0, ds0, p0, q0, hargs, rfl, rfl, h0, r0⟩ := trodAll_cons hA
  obtain ⟨rfl, rfl, rfl⟩ := trodAll_nil r0
  obtain ⟨rfl, rfl⟩ := trodVars_none hV
  obtain rfl : args = #[v0] := by cases args; simp_all
  obtain ⟨f0, h0⟩ := h0
  obtain ⟨x0, k0⟩ := readers.r22 _ _ _ _ _ _ h0
  have e0 := Zno (A := (Zt (Zt (Za .i64)))) rfl Tryz.underlying22 (hval 0 22 v0 rfl rfl)
  have hm := ZVn x0 (by obtain ⟨_, _, _, h1, h2⟩ := ZQm k0; unfold maxLen at h2; omega)
  have hw := Zzo (Z0o W) k0 hm
  rw [← e0] at hw
  refine Calls.mono hw fun e W' ⟨r, v', he, hx, _, hr⟩ => ?_
  obtain ⟨r0, rfl, hb⟩ := hr
  obtain rfl : r0 = [.bool true] := hb
  exact ⟨_, he, ZHp readers.laidOut (by decide +kernel) Tryz.underlying4 rfl rfl rfl rfl rfl hW' hx⟩
theorem readers_holds : Rows.TrialReadersSaid :=
  OpenClaim.holds_of_wide 4 Tryz.f4 rfl rfl rfl rfl rfl rfl rfl ⟨rfl, rfl, rfl, rfl, rfl⟩ rfl rfl rfl rfl rfl (by kernel_rfl) Tryz.func4 (by kernel_rfl)
    (of_decide_eq_true (by kernel_rfl)) (by unfold Func.isWrapper; first | (rw [if_pos (by decide +kernel)]; kernel_rfl) | (rw [if_neg (by decide +kernel)]; exact ⟨rfl, rfl⟩))
    (fun os started H enc _ => Zdq os started H enc)
end Go.Proofs.YtmmnpljhffbjhaaGreat
