/- RubberReleases: for every input the call returns true, and each argument reads afterwards as it read before. Conditions: none (the given statement). -/
import Derived.Test.YtlemohkjkgiloaaGreatRows
import Derived.WalkKit
import Derived.ProofKit
import Derived.Test.YtlemohkjkgiloaaGreatWxG
namespace Go.Proofs.YtlemohkjkgiloaaGreat
open Go.ChangeShapes Go.WideShapes Go.ChangeAt Go.RowKit Go.Eng
theorem releases.own:ownKnob Tryz.prog.godebug = none := by kernel_rfl
theorem releases.laidOut:laidOutB Tryz.prog = true := by kernel_rfl
theorem releases.r24:Zic Tryz.prog 24 (Zl (Ze .i64) (Ze .i64)) := ZPl Tryz.underlying24 (ZKl Tryz.underlying2) (ZKl Tryz.underlying2) rfl (by kernel_rfl) rfl (by kernel_rfl) (by kernel_rfl)
theorem releases.r88:Zic Tryz.prog 88 (Zl (ZB .f32) (ZB .f32)) := ZPl Tryz.underlying88 (ZFm Tryz.underlying84) (ZFm Tryz.underlying84) rfl (by kernel_rfl) rfl (by kernel_rfl) (by kernel_rfl)
theorem releases.r22:Zic Tryz.prog 22 (ZK (Zl (ZB .f32) (ZB .f32))) := Z0m Tryz.underlying22 releases.r88 (by kernel_rfl) (by decide)
theorem releases.r3:Zic Tryz.prog 3 (Ze .i64) := ZKl Tryz.underlying3
theorem releases.rU:Zic Tryz.prog 60 (Zl (Ze .i64) (Zl (Zl (Ze .i64) (Ze .i64)) (Zl (Zl (Ze .i64) (Ze .i64)) (Zl (Ze .i64) (Ze .i64))))) := Z8r Tryz.underlying60 releases.r3 releases.r24 releases.r24 releases.r24 rfl (by kernel_rfl) rfl (by kernel_rfl) rfl (by kernel_rfl) rfl (by kernel_rfl) (by kernel_rfl)
theorem releases.r56:Zic Tryz.prog 56 (ZK (Zl (Ze .i64) (Zl (Zl (Ze .i64) (Ze .i64)) (Zl (Zl (Ze .i64) (Ze .i64)) (Zl (Ze .i64) (Ze .i64)))))) := Z0m Tryz.underlying56 releases.rU (by kernel_rfl) (by decide)
set_option maxRecDepth 100000 in
theorem ZHr (os:Os) (started:os.Started) (H:Type) (enc:TypeId×Value→H) :
    ReturnsInHanded {} Tryz.checked os 4 .any (Rows.rubberReleasesSpec.pre6 enc Tryz.prog Tryz.f4 Rows.rubberReleasesRow.domain false) (Rows.rubberReleasesSpec.post enc Tryz.prog Tryz.f4 false true false false) := by
  refine returnsInHanded_of_change (C := Tryz.checked) releases.own started (by kernel_rfl) Tryz.func4
    (ChangeSpec.witness6 (enc := enc) (C := Tryz.checked) false ⟨#[], #[.slice none 0 0, .slice none 0 0], []⟩ 8 (by kernel_rfl) (by kernel_rfl) (by kernel_rfl) (by kernel_rfl)) ?_
  intro W base args ds gs before hval0 hW hcnd _
  have hval:∀ (j:Nat) t v, Tryz.f4.params[j]? = some t→args[j]? = some v→Value.okWide Tryz.prog W .any base t v := hval0
  have hW' := hW
  obtain ⟨p, q, hA0, hV, rfl, hfz, hnd⟩ := hW
  have hA:DataW.TrodAll enc Tryz.prog W 0 (fun _ => true) true Tryz.f4.params.toList args.toList ds p := hA0
  rw [Tryz.params4] at hA hval
  obtain ⟨v0, vs0, d0, ds0, p0, q0, hargs, rfl, rfl, h0, r0⟩ := trodAll_cons hA
  obtain ⟨v1, vs1, d1, ds1, p1, q1, rfl, rfl, rfl, h1, r1⟩ := trodAll_cons r0
  obtain ⟨rfl, rfl, rfl⟩ := trodAll_nil r1
  obtain ⟨rfl, rfl⟩ := trodVars_none hV
  obtain rfl:args = #[v0, v1] := by cases args; simp_all
  obtain ⟨f0, h0⟩ := h0
  obtain ⟨f1, h1⟩ := h1
  obtain ⟨x0, k0⟩ := releases.r22 _ _ _ _ _ _ h0
  obtain ⟨x1, k1⟩ := releases.r56 _ _ _ _ _ _ h1
  have e0 := Zxm (A := (ZK (Zl (ZB .f32) (ZB .f32)))) rfl Tryz.underlying22 (hval 0 22 v0 rfl rfl)
  have e1 := Zxm (A := (ZK (Zl (Ze .i64) (Zl (Zl (Ze .i64) (Ze .i64)) (Zl (Zl (Ze .i64) (Ze .i64)) (Zl (Ze .i64) (Ze .i64))))))) rfl Tryz.underlying56 (hval 1 56 v1 rfl rfl)
  have hm := Z4p x0 x1 (fun y hy => by obtain ⟨c, c1, c2, _, _, c3, c4, _, ha, c5, c6, _, hb, hc⟩ := Zcr k1 hy; exact ⟨ZDl ha, ZDl hb, ZDl hc⟩)
  have hw := Zxq (Zno W) k0 k1 hm
  rw [← e0, ← e1] at hw
  refine Calls.mono hw fun e W' ⟨r, v', he, hx, _, hr⟩ => ?_
  obtain ⟨r0, rfl, hb⟩ := hr
  obtain rfl:r0 = [.bool true] := hb
  exact ⟨_, he, ZMq releases.laidOut (by decide +kernel) Tryz.underlying4 rfl rfl rfl rfl rfl hW' hx⟩
theorem releases_holds:Rows.RubberReleasesSaid :=
  OpenClaim.holds_of_wide 4 Tryz.f4 rfl rfl rfl rfl rfl rfl rfl ⟨rfl, rfl, rfl, rfl, rfl⟩ rfl rfl rfl rfl rfl (by kernel_rfl) Tryz.func4 (by kernel_rfl)
    (of_decide_eq_true (by kernel_rfl)) (by unfold Func.isWrapper; first | (rw [if_pos (by decide +kernel)]; kernel_rfl) | (rw [if_neg (by decide +kernel)]; exact ⟨rfl, rfl⟩))
    (fun os started H enc _ => ZHr os started H enc)
end Go.Proofs.YtlemohkjkgiloaaGreat
