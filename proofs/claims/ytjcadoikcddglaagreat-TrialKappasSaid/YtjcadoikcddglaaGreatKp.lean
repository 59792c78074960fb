/- TrialKappas: for every input the call returns true, and each argument reads afterwards as it read before. Conditions: none (the given statement). -/
import Derived.Test.YtjcadoikcddglaaGreatRows
import Derived.WalkKit
import Derived.ProofKit
import Derived.Test.YtjcadoikcddglaaGreatKpF
namespace Go.Proofs.YtjcadoikcddglaaGreat
open Go.ChangeShapes Go.WideShapes Go.ChangeAt Go.RowKit Go.Eng
theorem kappas.own:ownKnob Tryz.prog.godebug = none := by kernel_rfl
theorem kappas.laidOut:laidOutB Tryz.prog = true := by kernel_rfl
theorem kappas.r1:ZDe Tryz.prog 28 (Zs (Za .i64)) := ZCj Tryz.underlying28 (Zjk Tryz.underlying3) (by kernel_rfl) (by decide)
theorem kappas.r2:ZDe Tryz.prog 22 (Zs (Zs (Za .i64))) := ZCj Tryz.underlying22 kappas.r1 (by kernel_rfl) (by decide)
theorem kappas.u:ZDe Tryz.prog 5 (Za .u8) := Zjk Tryz.underlying5
theorem kappas.us:ZDe Tryz.prog 23 (Zs (Za .u8)) := ZCj Tryz.underlying23 kappas.u (by kernel_rfl) (by decide)
set_option maxRecDepth 100000 in
theorem Zun (os:Os) (started:os.Started) (H:Type) (enc:TypeId×Value→H) :
    ReturnsInHanded {} Tryz.checked os 3 .any (Rows.trialKappasSpec.pre6 enc Tryz.prog Tryz.f3 Rows.trialKappasRow.domain false) (Rows.trialKappasSpec.post enc Tryz.prog Tryz.f3 false true false false) := by
  refine returnsInHanded_of_change (C := Tryz.checked) kappas.own started (by kernel_rfl) Tryz.func3
    (ChangeSpec.witness6 (enc := enc) (C := Tryz.checked) false ⟨#[], #[.slice none 0 0, .int .u8 0, .int .u8 0, .slice none 0 0, .slice none 0 0], []⟩ 8 (by kernel_rfl) (by kernel_rfl) (by kernel_rfl) (by kernel_rfl)) ?_
  intro W base args ds gs before hval0 hW hcnd _
  have hval:∀ (j:Nat) t v, Tryz.f3.params[j]? = some t→args[j]? = some v→Value.okWide Tryz.prog W .any base t v := hval0
  have hW' := hW
  obtain ⟨p, q, hA0, hV, rfl, hfz, hnd⟩ := hW
  have hA:DataW.TrodAll enc Tryz.prog W 0 (fun _ => true) true Tryz.f3.params.toList args.toList ds p := hA0
  rw [Tryz.params3] at hA hval
  obtain ⟨v0, vs0, d0, ds0, p0, q0, hargs, rfl, rfl, h0, r0⟩ := trodAll_cons hA
  obtain ⟨v1, vs1, d1, ds1, p1, q1, rfl, rfl, rfl, h1, r1⟩ := trodAll_cons r0
  obtain ⟨v2, vs2, d2, ds2, p2, q2, rfl, rfl, rfl, h2, r2⟩ := trodAll_cons r1
  obtain ⟨v3, vs3, d3, ds3, p3, q3, rfl, rfl, rfl, h3, r3⟩ := trodAll_cons r2
  obtain ⟨v4, vs4, d4, ds4, p4, q4, rfl, rfl, rfl, h4, r4⟩ := trodAll_cons r3
  obtain ⟨rfl, rfl, rfl⟩ := trodAll_nil r4
  obtain ⟨rfl, rfl⟩ := trodVars_none hV
  obtain rfl:args = #[v0, v1, v2, v3, v4] := by cases args; simp_all
  obtain ⟨f0, h0⟩ := h0
  obtain ⟨f1, h1⟩ := h1
  obtain ⟨f2, h2⟩ := h2
  obtain ⟨f3, h3⟩ := h3
  obtain ⟨f4, h4⟩ := h4
  obtain ⟨x0, k0⟩ := kappas.r2 _ _ _ _ _ _ h0
  obtain ⟨x1, k1⟩ := kappas.u _ _ _ _ _ _ h1
  obtain ⟨x2, k2⟩ := kappas.u _ _ _ _ _ _ h2
  obtain ⟨x3, k3⟩ := kappas.us _ _ _ _ _ _ h3
  obtain ⟨x4, k4⟩ := kappas.us _ _ _ _ _ _ h4
  have e0 := Zjj (A := (Zs (Zs (Za .i64)))) rfl Tryz.underlying22 (hval 0 22 v0 rfl rfl)
  have e1 := Zek (A := (Za .u8)) rfl Tryz.underlying5 (hval 1 5 v1 rfl rfl)
  have e2 := Zek (A := (Za .u8)) rfl Tryz.underlying5 (hval 2 5 v2 rfl rfl)
  have e3 := Zjj (A := (Zs (Za .u8))) rfl Tryz.underlying23 (hval 3 23 v3 rfl rfl)
  have e4 := Zjj (A := (Zs (Za .u8))) rfl Tryz.underlying23 (hval 4 23 v4 rfl rfl)
  have hm := Z8n x0 (ZVm k0) x1 x2 (Zif.1 (by obtain ⟨_, k⟩ := k1; exact k)) (Zif.1 (by obtain ⟨_, k⟩ := k2; exact k)) x3 x4 (fun x hx => by obtain ⟨c, _, hc⟩ := ZHl k3 hx; exact Zif.1 hc) (fun x hx => by obtain ⟨c, _, hc⟩ := ZHl k4 hx; exact Zif.1 hc)
  have hw := Z8o (ZSo W) k0 k1 k2 k3 k4 hm
  rw [← e0, ← e1, ← e2, ← e3, ← e4] at hw
  refine Calls.mono hw fun e W' ⟨r, v', he, hx, _, hr⟩ => ?_
  obtain ⟨r0, rfl, hb⟩ := hr
  obtain rfl:r0 = [.bool true] := hb
  exact ⟨_, he, ZHn kappas.laidOut (by decide +kernel) Tryz.underlying4 rfl rfl rfl rfl rfl hW' hx⟩
theorem kappas_holds:Rows.TrialKappasSaid :=
  OpenClaim.holds_of_wide 3 Tryz.f3 rfl rfl rfl rfl rfl rfl rfl ⟨rfl, rfl, rfl, rfl, rfl⟩ rfl rfl rfl rfl rfl (by kernel_rfl) Tryz.func3 (by kernel_rfl)
    (of_decide_eq_true (by kernel_rfl)) (by unfold Func.isWrapper; first | (rw [if_pos (by decide +kernel)]; kernel_rfl) | (rw [if_neg (by decide +kernel)]; exact ⟨rfl, rfl⟩))
    (fun os started H enc _ => Zun os started H enc)
end Go.Proofs.YtjcadoikcddglaaGreat
