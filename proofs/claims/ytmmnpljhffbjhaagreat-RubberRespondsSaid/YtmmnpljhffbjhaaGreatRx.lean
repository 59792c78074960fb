/- RubberResponds: for every input the call returns true, and each argument reads afterwards as it read before. Conditions: none (the given statement). -/
import Derived.Test.YtmmnpljhffbjhaaGreatRows
import Derived.WalkKit
import Derived.ProofKit
import Derived.Test.YtmmnpljhffbjhaaGreatRxF
namespace Go.Proofs.YtmmnpljhffbjhaaGreat
open Go.ChangeShapes Go.WideShapes Go.ChangeAt Go.RowKit Go.Eng
theorem responds.own : ownKnob Tryz.prog.godebug = none := by kernel_rfl
theorem responds.laidOut : laidOutB Tryz.prog = true := by kernel_rfl
theorem responds.r50 : ZWb Tryz.prog 50 (Zj (Zc .i64) (Zc .i64)) := Zsn Tryz.underlying50 (ZCl Tryz.underlying2) (ZCl Tryz.underlying2) rfl (by kernel_rfl) rfl (by kernel_rfl) (by kernel_rfl)
theorem responds.r224 : ZWb Tryz.prog 224 (Zj (Zj (Zc .i64) (Zc .i64)) (Zj (Zc .i64) (Zc .i64))) := Zlq Tryz.underlying224 responds.r50 (by kernel_rfl) (by kernel_rfl)
theorem responds.r145 : ZWb Tryz.prog 145 (ZD (Zj (Zj (Zc .i64) (Zc .i64)) (Zj (Zc .i64) (Zc .i64)))) := Zfn Tryz.underlying145 responds.r224 (by kernel_rfl) (by decide)
theorem responds.r147 : ZWb Tryz.prog 147 (Zj (Zj (Zc .i64) (Zc .i64)) (ZD (Zj (Zj (Zc .i64) (Zc .i64)) (Zj (Zc .i64) (Zc .i64))))) := Zsn Tryz.underlying147 responds.r50 responds.r145 rfl (by kernel_rfl) rfl (by kernel_rfl) (by kernel_rfl)
theorem responds.r228 : ZWb Tryz.prog 228 (Zj (Zj (Zc .i64) (Zc .i64)) (Zj (Zj (Zc .i64) (Zc .i64)) (Zj (Zj (Zc .i64) (Zc .i64)) (Zj (Zc .i64) (Zc .i64))))) := Z1q Tryz.underlying228 responds.r50 responds.r50 responds.r50 responds.r50 rfl (by kernel_rfl) rfl (by kernel_rfl) rfl (by kernel_rfl) rfl (by kernel_rfl) (by kernel_rfl)
theorem responds.r148 : ZWb Tryz.prog 148 (ZD (Zj (Zj (Zc .i64) (Zc .i64)) (Zj (Zj (Zc .i64) (Zc .i64)) (Zj (Zj (Zc .i64) (Zc .i64)) (Zj (Zc .i64) (Zc .i64)))))) := Zfn Tryz.underlying148 responds.r228 (by kernel_rfl) (by decide)
set_option maxRecDepth 100000 in
theorem ZHo (os : Os) (started : os.Started) (H : Type) (enc : TypeId × Value → H) :
    ReturnsInHanded {} Tryz.checked os 13 .any (Rows.rubberRespondsSpec.pre6 enc Tryz.prog Tryz.f13 Rows.rubberRespondsRow.domain false) (Rows.rubberRespondsSpec.post enc Tryz.prog Tryz.f13 false true false false) := by
  refine returnsInHanded_of_change (C := Tryz.checked) responds.own started (by kernel_rfl) Tryz.func13
    (ChangeSpec.witness6 (enc := enc) (C := Tryz.checked) false ⟨#[], #[.agg #[.int .i64 0, .int .i64 0, .slice none 0 0], .agg #[.int .i64 0, .int .i64 0], .slice none 0 0], []⟩ 8 (by kernel_rfl) (by kernel_rfl) (by kernel_rfl) (by kernel_rfl)) ?_
  intro W base args ds gs before hval0 hW hcnd _
  have hval : ∀ (j : Nat) t v, Tryz.f13.params[j]? = some t → args[j]? = some v → Value.okWide Tryz.prog W .any base t v := hval0
  have hW' := hW
  obtain ⟨p, q, hA0, hV, rfl, hfz, hnd⟩ := hW
  have hA : DataW.TrodAll enc Tryz.prog W 0 (fun _ => true) true Tryz.f13.params.toList args.toList ds p := hA0
  rw [Tryz.params13] at hA hval
  obtain ⟨v0, vs0, d0, ds0, p0, q0, hargs, rfl, rfl, h0, r0⟩ := trodAll_cons hA
  obtain ⟨v1, vs1, d1, ds1, p1, q1, rfl, rfl, rfl, h1, r1⟩ := trodAll_cons r0
  obtain ⟨v2, vs2, d2, ds2, p2, q2, rfl, rfl, rfl, h2, r2⟩ := trodAll_cons r1
  obtain ⟨rfl, rfl, rfl⟩ := trodAll_nil r2
  obtain ⟨rfl, rfl⟩ := trodVars_none hV
  obtain rfl : args = #[v0, v1, v2] := by cases args; simp_all
  obtain ⟨f0, h0⟩ := h0
  obtain ⟨f1, h1⟩ := h1
  obtain ⟨f2, h2⟩ := h2
  obtain ⟨x0, k0⟩ := responds.r147 _ _ _ _ _ _ h0
  obtain ⟨x1, k1⟩ := responds.r50 _ _ _ _ _ _ h1
  obtain ⟨x2, k2⟩ := responds.r148 _ _ _ _ _ _ h2
  have e0 := Zml (A := (Zj (Zj (Zc .i64) (Zc .i64)) (ZD (Zj (Zj (Zc .i64) (Zc .i64)) (Zj (Zc .i64) (Zc .i64)))))) rfl (.inl ⟨_, Tryz.underlying147⟩) (hval 0 147 v0 rfl rfl)
  have e1 := Zml (A := (Zj (Zc .i64) (Zc .i64))) rfl (.inl ⟨_, Tryz.underlying50⟩) (hval 1 50 v1 rfl rfl)
  have e2 := Z5n (A := (ZD (Zj (Zj (Zc .i64) (Zc .i64)) (Zj (Zj (Zc .i64) (Zc .i64)) (Zj (Zj (Zc .i64) (Zc .i64)) (Zj (Zc .i64) (Zc .i64))))))) rfl Tryz.underlying148 (hval 2 148 v2 rfl rfl)
  obtain ⟨_, _, _, ka, kb⟩ := id k0
  have hm := Zco x0 x1 x2 (ZPe ka) (fun m hm => by obtain ⟨c, c1, c2, _, ha, hb⟩ := Zul kb hm; exact ⟨ZPe ha, ZPe hb⟩) (ZPe k1) (fun y hy => by obtain ⟨c, c1, c2, _, ha, c3, c4, _, hb, c5, c6, _, hc, hd⟩ := Zul k2 hy; exact ⟨ZPe ha, ZPe hb, ZPe hc, ZPe hd⟩)
  have hw := Zap (ZOn W) k0 k1 k2 hm
  rw [← e0, ← e1, ← e2] at hw
  refine Calls.mono hw fun e W' ⟨r, v', he, hx, _, hr⟩ => ?_
  obtain ⟨r0, rfl, hb⟩ := hr
  obtain rfl : r0 = [.bool true] := hb
  exact ⟨_, he, ZIq responds.laidOut (by decide +kernel) Tryz.underlying4 rfl rfl rfl rfl rfl hW' hx⟩
theorem responds_holds : Rows.RubberRespondsSaid :=
  OpenClaim.holds_of_wide 13 Tryz.f13 rfl rfl rfl rfl rfl rfl rfl ⟨rfl, rfl, rfl, rfl, rfl⟩ rfl rfl rfl rfl rfl (by kernel_rfl) Tryz.func13 (by kernel_rfl)
    (of_decide_eq_true (by kernel_rfl)) (by unfold Func.isWrapper; first | (rw [if_pos (by decide +kernel)]; kernel_rfl) | (rw [if_neg (by decide +kernel)]; exact ⟨rfl, rfl⟩))
    (fun os started H enc _ => ZHo os started H enc)
end Go.Proofs.YtmmnpljhffbjhaaGreat
