/- TrialDesigns: for every input the call returns true, and each argument reads afterwards as it read before. Conditions: none (the given statement). -/
import Derived.Test.YteieminegehfdaaGreatRows
import Derived.WalkKit
import Derived.ProofKit
import Derived.Test.YteieminegehfdaaGreatDeG
namespace Go.Proofs.YteieminegehfdaaGreat
open Go.ChangeShapes Go.WideShapes Go.ChangeAt Go.RowKit Go.Eng
theorem designs.own:ownKnob Tryz.prog.godebug = none := by kernel_rfl
theorem designs.laidOut:laidOutB Tryz.prog = true := by kernel_rfl
theorem designs.ri:Zzc Tryz.prog 3 (Zf .i64) := Z2o Tryz.underlying3
theorem designs.rq:Zzc Tryz.prog 68 (ZA (Zf .i64) (Zf .i64)) := ZTr Tryz.underlying68 (Z2o Tryz.underlying2) (Z2o Tryz.underlying2) rfl (by kernel_rfl) rfl (by kernel_rfl) (by kernel_rfl)
theorem designs.ra4:Zzc Tryz.prog 22 (ZA (Zf .i64) (ZA (Zf .i64) (ZA (Zf .i64) (Zf .i64)))) := Ziz Tryz.underlying22 designs.ri (by kernel_rfl) (by kernel_rfl)
theorem designs.rlg:Zzc Tryz.prog 88 (ZA (ZA (Zf .i64) (ZA (Zf .i64) (ZA (Zf .i64) (Zf .i64)))) (ZA (Zf .i64) (Zf .i64))) := ZTr Tryz.underlying88 designs.ra4 designs.rq rfl (by kernel_rfl) rfl (by kernel_rfl) (by kernel_rfl)
theorem designs.rll:Zzc Tryz.prog 23 (ZB (ZA (ZA (Zf .i64) (ZA (Zf .i64) (ZA (Zf .i64) (Zf .i64)))) (ZA (Zf .i64) (Zf .i64)))) := ZnA Tryz.underlying23 designs.rlg (by kernel_rfl) (by decide)
set_option maxRecDepth 100000 in
theorem ZEw (os:Os) (started:os.Started) (H:Type) (enc:TypeId×Value→H) :
    ReturnsInHanded {} Tryz.checked os 3 .any (Rows.trialDesignsSpec.pre6 enc Tryz.prog Tryz.f3 Rows.trialDesignsRow.domain false) (Rows.trialDesignsSpec.post enc Tryz.prog Tryz.f3 false true false false) := by
  refine returnsInHanded_of_change (C := Tryz.checked) designs.own started (by kernel_rfl) Tryz.func3
    (ChangeSpec.witness6 (enc := enc) (C := Tryz.checked) false ⟨#[], #[.agg #[.int .i64 0, .int .i64 0, .int .i64 0, .int .i64 0], .slice none 0 0, .int .i64 0, .int .i64 0], []⟩ 8 (by kernel_rfl) (by kernel_rfl) (by kernel_rfl) (by kernel_rfl)) ?_
  intro W base args ds gs before hval0 hW hcnd _
  have hval:∀ (j:Nat) t v, Tryz.f3.params[j]? = some t→args[j]? = some v→Value.okWide Tryz.prog W .any base t v := hval0
  have hW' := hW
  obtain ⟨p, q, hA0, hV, rfl, hfz, hnd⟩ := hW
  have hA:DataW.TrodAll enc Tryz.prog W 0 (fun _ => true) true Tryz.f3.params.toList args.toList ds p := hA0
  rw [Tryz.params3] at hA hval
  obtain ⟨v0, vs0, d0, ds0, p0, q0, hargs, rfl, rfl, h0, r0⟩ := trodAll_cons hA
  obtain ⟨v1, vs1, d1, ds1, p1, q1, rfl, rfl, rfl, h1, r1⟩ := trodAll_cons r0
  obtain ⟨v2, vs2, d2, ds2, p2, q2, rfl, rfl, rfl, h2, r2⟩ := trodAll_cons r1
  obtain ⟨v3, vs3, d3, ds3, p3, q3, rfl, rfl, rfl, h3, r3⟩ := trodAll_cons r2
  obtain ⟨rfl, rfl, rfl⟩ := trodAll_nil r3
  obtain ⟨rfl, rfl⟩ := trodVars_none hV
  obtain rfl:args = #[v0, v1, v2, v3] := by cases args; simp_all
  obtain ⟨f0, h0⟩ := h0
  obtain ⟨f1, h1⟩ := h1
  obtain ⟨f2, h2⟩ := h2
  obtain ⟨f3, h3⟩ := h3
  obtain ⟨x0, k0⟩ := designs.ra4 _ _ _ _ _ _ h0
  obtain ⟨x1, k1⟩ := designs.rll _ _ _ _ _ _ h1
  obtain ⟨x2, k2⟩ := designs.ri _ _ _ _ _ _ h2
  obtain ⟨x3, k3⟩ := designs.ri _ _ _ _ _ _ h3
  have e0 := val_agg (A := (ZA (Zf .i64) (ZA (Zf .i64) (ZA (Zf .i64) (Zf .i64))))) rfl (.inr ⟨_, _, Tryz.underlying22⟩) (hval 0 22 v0 rfl rfl)
  have e1 := ZiA (A := (ZB (ZA (ZA (Zf .i64) (ZA (Zf .i64) (ZA (Zf .i64) (Zf .i64)))) (ZA (Zf .i64) (Zf .i64))))) rfl Tryz.underlying23 (hval 1 23 v1 rfl rfl)
  have e2 := ZYt (A := (Zf .i64)) rfl Tryz.underlying3 (hval 2 3 v2 rfl rfl)
  have e3 := ZYt (A := (Zf .i64)) rfl Tryz.underlying3 (hval 3 3 v3 rfl rfl)
  have hm := ZLw (s := x0) (l := x1) (a := x2) (b := x3) (fun x hx => by obtain ⟨c, c1, c2, _, ha, hb⟩ := ZNz k1 hx; exact i64_of hb)
  have hw := ZNy (ZYz W) k0 k1 k2 k3 hm
  rw [← e0, ← e1, ← e2, ← e3] at hw
  refine Calls.mono hw fun e W' ⟨r, v', he, hx, _, hr⟩ => ?_
  obtain ⟨r0, rfl, hb⟩ := hr
  obtain rfl:r0 = [.bool true] := hb
  exact ⟨_, he, Z9v designs.laidOut (by decide +kernel) Tryz.underlying4 rfl rfl rfl rfl rfl hW' hx⟩
theorem designs_holds:Rows.TrialDesignsSaid :=
  OpenClaim.holds_of_wide 3 Tryz.f3 rfl rfl rfl rfl rfl rfl rfl ⟨rfl, rfl, rfl, rfl, rfl⟩ rfl rfl rfl rfl rfl (by kernel_rfl) Tryz.func3 (by kernel_rfl)
    (of_decide_eq_true (by kernel_rfl)) (by unfold Func.isWrapper; first | (rw [if_pos (by decide +kernel)]; kernel_rfl) | (rw [if_neg (by decide +kernel)]; exact ⟨rfl, rfl⟩))
    (fun os started H enc _ => ZEw os started H enc)
end Go.Proofs.YteieminegehfdaaGreat
