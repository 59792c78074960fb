/- RubberWeighings: for every input the call returns true, and each argument reads afterwards as it read before. Conditions: none (the given statement). -/
import Derived.Test.YtpjddkamahambaaGreatRows
import Derived.WalkKit
import Derived.ProofKit
import Derived.Test.YtpjddkamahambaaGreatWgG
namespace Go.Proofs.YtpjddkamahambaaGreat
open Go.ChangeShapes Go.WideShapes Go.ChangeAt Go.RowKit Go.Eng
theorem weighings.own:ownKnob Tryz.prog.godebug = none := by kernel_rfl
theorem weighings.laidOut:laidOutB Tryz.prog = true := by kernel_rfl
theorem weighings.rq:ZTb Tryz.prog 38 (Zj (Zd .i64) (Zd .i64)) := Zmk Tryz.underlying38 (ZLj Tryz.underlying2) (ZLj Tryz.underlying2) rfl (by kernel_rfl) rfl (by kernel_rfl) (by kernel_rfl)
theorem weighings.rs:ZTb Tryz.prog 9 Zt := Zco Tryz.underlying9
theorem weighings.ri:ZTb Tryz.prog 138 (Zj Zt (Zj (Zj (Zd .i64) (Zd .i64)) (Zj (Zd .i64) (Zd .i64)))) := ZSo Tryz.underlying138 weighings.rs weighings.rq weighings.rq rfl (by kernel_rfl) rfl (by kernel_rfl) rfl (by kernel_rfl) (by kernel_rfl)
theorem weighings.rl:ZTb Tryz.prog 136 (ZC (Zj Zt (Zj (Zj (Zd .i64) (Zd .i64)) (Zj (Zd .i64) (Zd .i64))))) := ZXk Tryz.underlying136 weighings.ri (by kernel_rfl) (by decide)
theorem weighings.rll:ZTb Tryz.prog 22 (ZC (ZC (Zj Zt (Zj (Zj (Zd .i64) (Zd .i64)) (Zj (Zd .i64) (Zd .i64)))))) := ZXk Tryz.underlying22 weighings.rl (by kernel_rfl) (by decide)
theorem weighings.rc:ZTb Tryz.prog 24 (Zj Zt (ZC (ZC (Zj Zt (Zj (Zj (Zd .i64) (Zd .i64)) (Zj (Zd .i64) (Zd .i64))))))) := Zmk Tryz.underlying24 weighings.rs weighings.rll rfl (by kernel_rfl) rfl (by kernel_rfl) (by kernel_rfl)
theorem weighings.ram:ZTb Tryz.prog 40 (Zj Zt (Zj (Zd .i64) (Zd .i64))) := Zmk Tryz.underlying40 weighings.rs weighings.rq rfl (by kernel_rfl) rfl (by kernel_rfl) (by kernel_rfl)
theorem weighings.rla:ZTb Tryz.prog 25 (ZC (Zj Zt (Zj (Zd .i64) (Zd .i64)))) := ZXk Tryz.underlying25 weighings.ram (by kernel_rfl) (by decide)
theorem weighings.rn:ZTb Tryz.prog 3 (Zd .i64) := ZLj Tryz.underlying3
set_option maxRecDepth 100000 in
theorem ZEq (os:Os) (started:os.Started) (H:Type) (enc:TypeId×Value→H) :
    ReturnsInHanded {} Tryz.checked os 3 .any (Rows.rubberWeighingsSpec.pre6 enc Tryz.prog Tryz.f3 Rows.rubberWeighingsRow.domain false) (Rows.rubberWeighingsSpec.post enc Tryz.prog Tryz.f3 false true false false) := by
  refine returnsInHanded_of_change (C := Tryz.checked) weighings.own started (by kernel_rfl) Tryz.func3
    (ChangeSpec.witness6 (enc := enc) (C := Tryz.checked) false ⟨#[], #[.agg #[.string { data := #[] }, .slice none 0 0], .int .i64 0, .slice none 0 0], []⟩ 8 (by kernel_rfl) (by kernel_rfl) (by kernel_rfl) (by kernel_rfl)) ?_
  intro W base args ds gs before hval0 hW hcnd _
  have hval:∀ (j:Nat) t v, Tryz.f3.params[j]? = some t→args[j]? = some v→Value.okWide Tryz.prog W .any base t v := hval0
  have hW' := hW
  obtain ⟨p, q, hA0, hV, rfl, hfz, hnd⟩ := hW
  have hA:DataW.TrodAll enc Tryz.prog W 0 (fun _ => true) true Tryz.f3.params.toList args.toList ds p := hA0
  rw [Tryz.params3] at hA hval
  obtain ⟨v0, vs0, d0, ds0, p0, q0, hargs, rfl, rfl, h0, r0⟩ := trodAll_cons hA
  obtain ⟨v1, vs1, d1, ds1, p1, q1, rfl, rfl, rfl, h1, r1⟩ := trodAll_cons r0
  obtain ⟨v2, vs2, d2, ds2, p2, q2, rfl, rfl, rfl, h2, r2⟩ := trodAll_cons r1
  obtain ⟨rfl, rfl, rfl⟩ := trodAll_nil r2
  obtain ⟨rfl, rfl⟩ := trodVars_none hV
  obtain rfl:args = #[v0, v1, v2] := by cases args; simp_all
  obtain ⟨f0, h0⟩ := h0
  obtain ⟨f1, h1⟩ := h1
  obtain ⟨f2, h2⟩ := h2
  obtain ⟨x0, k0⟩ := weighings.rc _ _ _ _ _ _ h0
  obtain ⟨x1, k1⟩ := weighings.rn _ _ _ _ _ _ h1
  obtain ⟨x2, k2⟩ := weighings.rla _ _ _ _ _ _ h2
  have e0 := val_agg (A := (Zj Zt (ZC (ZC (Zj Zt (Zj (Zj (Zd .i64) (Zd .i64)) (Zj (Zd .i64) (Zd .i64)))))))) rfl (.inl ⟨_, Tryz.underlying24⟩) (hval 0 24 v0 rfl rfl)
  have e1 := val_int (A := (Zd .i64)) rfl Tryz.underlying3 (hval 1 3 v1 rfl rfl)
  have e2 := ZTq (A := (ZC (Zj Zt (Zj (Zd .i64) (Zd .i64))))) rfl Tryz.underlying25 (hval 2 25 v2 rfl rfl)
  obtain ⟨_, _, _, ⟨_, ka⟩, kb⟩ := id k0
  have hm := ZYn x0 x1 x2 ⟨ka, fun l hl x hx => by obtain ⟨c, kc⟩ := ZVk kb hl; obtain ⟨d, d1, d2, _, ⟨_, ha⟩, d3, d4, _, hb, hc⟩ := ZVk kc hx; exact ⟨ha, ZJj hb, ZJj hc⟩⟩ (fun y hy => by obtain ⟨c, c1, c2, _, _, hb⟩ := ZVk k2 hy; exact ZJj hb)
  have hw := ZJq (ZBo W) k0 k1 k2 hm
  rw [← e0, ← e1, ← e2] at hw
  refine Calls.mono hw fun e W' ⟨r, v', he, hx, _, hr⟩ => ?_
  obtain ⟨r0, rfl, hb⟩ := hr
  obtain rfl:r0 = [.bool true] := hb
  exact ⟨_, he, ZDo weighings.laidOut (by decide +kernel) Tryz.underlying4 rfl rfl rfl rfl rfl hW' hx⟩
theorem weighings_holds:Rows.RubberWeighingsSaid :=
  OpenClaim.holds_of_wide 3 Tryz.f3 rfl rfl rfl rfl rfl rfl rfl ⟨rfl, rfl, rfl, rfl, rfl⟩ rfl rfl rfl rfl rfl (by kernel_rfl) Tryz.func3 (by kernel_rfl)
    (of_decide_eq_true (by kernel_rfl)) (by unfold Func.isWrapper; first | (rw [if_pos (by decide +kernel)]; kernel_rfl) | (rw [if_neg (by decide +kernel)]; exact ⟨rfl, rfl⟩))
    (fun os started H enc _ => ZEq os started H enc)
end Go.Proofs.YtpjddkamahambaaGreat
