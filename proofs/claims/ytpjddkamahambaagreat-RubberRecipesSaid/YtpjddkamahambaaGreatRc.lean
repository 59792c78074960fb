/- RubberRecipes: for every input the call returns true, and each argument reads afterwards as it read before. Conditions: none (the given statement). -/
import Derived.Test.YtpjddkamahambaaGreatRows
import Derived.WalkKit
import Derived.ProofKit
import Derived.Test.YtpjddkamahambaaGreatRcG
namespace Go.Proofs.YtpjddkamahambaaGreat
open Go.ChangeShapes Go.WideShapes Go.ChangeAt Go.RowKit Go.Eng
theorem recipes.own:ownKnob Tryz.prog.godebug = none := by kernel_rfl
theorem recipes.laidOut:laidOutB Tryz.prog = true := by kernel_rfl
theorem recipes.rq:Zyc Tryz.prog 38 (Zi (Ze .i64) (Ze .i64)) := Zgm Tryz.underlying38 (Z4n Tryz.underlying2) (Z4n Tryz.underlying2) rfl (by kernel_rfl) rfl (by kernel_rfl) (by kernel_rfl)
theorem recipes.rs:Zyc Tryz.prog 9 Zo := Zys Tryz.underlying9
theorem recipes.ri:Zyc Tryz.prog 138 (Zi Zo (Zi (Zi (Ze .i64) (Ze .i64)) (Zi (Ze .i64) (Ze .i64)))) := Zcr Tryz.underlying138 recipes.rs recipes.rq recipes.rq rfl (by kernel_rfl) rfl (by kernel_rfl) rfl (by kernel_rfl) (by kernel_rfl)
theorem recipes.rl:Zyc Tryz.prog 136 (Zu (Zi Zo (Zi (Zi (Ze .i64) (Ze .i64)) (Zi (Ze .i64) (Ze .i64))))) := ZUk Tryz.underlying136 recipes.ri (by kernel_rfl) (by decide)
theorem recipes.rll:Zyc Tryz.prog 22 (Zu (Zu (Zi Zo (Zi (Zi (Ze .i64) (Ze .i64)) (Zi (Ze .i64) (Ze .i64)))))) := ZUk Tryz.underlying22 recipes.rl (by kernel_rfl) (by decide)
theorem recipes.rc:Zyc Tryz.prog 24 (Zi Zo (Zu (Zu (Zi Zo (Zi (Zi (Ze .i64) (Ze .i64)) (Zi (Ze .i64) (Ze .i64))))))) := Zgm Tryz.underlying24 recipes.rs recipes.rll rfl (by kernel_rfl) rfl (by kernel_rfl) (by kernel_rfl)
theorem recipes.rss:Zyc Tryz.prog 69 (Zu Zo) := ZUk Tryz.underlying69 recipes.rs (by kernel_rfl) (by decide)
set_option maxRecDepth 100000 in
theorem Zds (os:Os) (started:os.Started) (H:Type) (enc:TypeId×Value→H) :
    ReturnsInHanded {} Tryz.checked os 4 .any (Rows.rubberRecipesSpec.pre6 enc Tryz.prog Tryz.f4 Rows.rubberRecipesRow.domain false) (Rows.rubberRecipesSpec.post enc Tryz.prog Tryz.f4 false true false false) := by
  refine returnsInHanded_of_change (C := Tryz.checked) recipes.own started (by kernel_rfl) Tryz.func4
    (ChangeSpec.witness6 (enc := enc) (C := Tryz.checked) false ⟨#[], #[.agg #[.string { data := #[] }, .slice none 0 0], .agg #[.int .i64 0, .int .i64 0], .slice none 0 0], []⟩ 8 (by kernel_rfl) (by kernel_rfl) (by kernel_rfl) (by kernel_rfl)) ?_
  intro W base args ds gs before hval0 hW hcnd _
  have hval:∀ (j:Nat) t v, Tryz.f4.params[j]? = some t→args[j]? = some v→Value.okWide Tryz.prog W .any base t v := hval0
  have hW' := hW
  obtain ⟨p, q, hA0, hV, rfl, hfz, hnd⟩ := hW
  have hA:DataW.TrodAll enc Tryz.prog W 0 (fun _ => true) true Tryz.f4.params.toList args.toList ds p := hA0
  rw [Tryz.params4] at hA hval
  obtain ⟨v0, vs0, d0, ds0, p0, q0, hargs, rfl, rfl, h0, r0⟩ := trodAll_cons hA
  obtain ⟨v1, vs1, d1, ds1, p1, q1, rfl, rfl, rfl, h1, r1⟩ := trodAll_cons r0
  obtain ⟨v2, vs2, d2, ds2, p2, q2, rfl, rfl, rfl, h2, r2⟩ := trodAll_cons r1
  obtain ⟨rfl, rfl, rfl⟩ := trodAll_nil r2
  obtain ⟨rfl, rfl⟩ := trodVars_none hV
  obtain rfl:args = #[v0, v1, v2] := by cases args; simp_all
  obtain ⟨f0, h0⟩ := h0
  obtain ⟨f1, h1⟩ := h1
  obtain ⟨f2, h2⟩ := h2
  obtain ⟨x0, k0⟩ := recipes.rc _ _ _ _ _ _ h0
  obtain ⟨x1, k1⟩ := recipes.rq _ _ _ _ _ _ h1
  obtain ⟨x2, k2⟩ := recipes.rss _ _ _ _ _ _ h2
  have e0 := Zvn (A := (Zi Zo (Zu (Zu (Zi Zo (Zi (Zi (Ze .i64) (Ze .i64)) (Zi (Ze .i64) (Ze .i64)))))))) rfl (.inl ⟨_, Tryz.underlying24⟩) (hval 0 24 v0 rfl rfl)
  have e1 := Zvn (A := (Zi (Ze .i64) (Ze .i64))) rfl (.inl ⟨_, Tryz.underlying38⟩) (hval 1 38 v1 rfl rfl)
  have e2 := ZNr (A := (Zu Zo)) rfl Tryz.underlying69 (hval 2 69 v2 rfl rfl)
  obtain ⟨_, _, _, ⟨_, ka⟩, kb⟩ := id k0
  have hm := ZZo x0 x1 x2 ⟨ka, fun l hl x hx => by obtain ⟨c, kc⟩ := Zmo kb hl; obtain ⟨d, d1, d2, _, ⟨_, ha⟩, d3, d4, _, hb, hc⟩ := Zmo kc hx; exact ⟨ha, ZDl hb, ZDl hc⟩⟩ (ZDl k1)
  have hw := Zbr (ZJq W) k0 k1 k2 hm
  rw [← e0, ← e1, ← e2] at hw
  refine Calls.mono hw fun e W' ⟨r, v', he, hx, _, hr⟩ => ?_
  obtain ⟨r0, rfl, hb⟩ := hr
  obtain rfl:r0 = [.bool true] := hb
  exact ⟨_, he, ZVp recipes.laidOut (by decide +kernel) Tryz.underlying4 rfl rfl rfl rfl rfl hW' hx⟩
theorem recipes_holds:Rows.RubberRecipesSaid :=
  OpenClaim.holds_of_wide 4 Tryz.f4 rfl rfl rfl rfl rfl rfl rfl ⟨rfl, rfl, rfl, rfl, rfl⟩ rfl rfl rfl rfl rfl (by kernel_rfl) Tryz.func4 (by kernel_rfl)
    (of_decide_eq_true (by kernel_rfl)) (by unfold Func.isWrapper; first | (rw [if_pos (by decide +kernel)]; kernel_rfl) | (rw [if_neg (by decide +kernel)]; exact ⟨rfl, rfl⟩))
    (fun os started H enc _ => Zds os started H enc)
end Go.Proofs.YtpjddkamahambaaGreat
