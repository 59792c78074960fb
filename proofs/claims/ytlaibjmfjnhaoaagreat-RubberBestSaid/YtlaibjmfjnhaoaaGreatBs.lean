/- RubberBest: for every input the call returns true, and each argument reads afterwards as it read before. Conditions: none (the given statement). -/
import Derived.Test.YtlaibjmfjnhaoaaGreatRows
import Derived.WalkKit
import Derived.ProofKit
import Derived.Test.YtlaibjmfjnhaoaaGreatBsG
namespace Go.Proofs.YtlaibjmfjnhaoaaGreat
open Go.ChangeShapes Go.WideShapes Go.ChangeAt Go.RowKit Go.Eng
theorem best.own:ownKnob Tryz.prog.godebug = none := by kernel_rfl
theorem best.laidOut:laidOutB Tryz.prog = true := by kernel_rfl
theorem best.rq:Zlb Tryz.prog 26 (Zt (Zd .i64) (Zd .i64)) := Zoy Tryz.underlying26 (Z3j Tryz.underlying2) (Z3j Tryz.underlying2) rfl (by kernel_rfl) rfl (by kernel_rfl) (by kernel_rfl)
theorem best.rl:Zlb Tryz.prog 23 (ZG (Zt (Zd .i64) (Zd .i64))) := Z3t Tryz.underlying23 best.rq (by kernel_rfl) (by decide)
theorem best.rs:Zlb Tryz.prog 90 (Zt (Zt (Zd .i64) (Zd .i64)) (Zt (Zt (Zd .i64) (Zd .i64)) (Zt (Zt (Zd .i64) (Zd .i64)) (Zt (Zd .i64) (Zd .i64))))) := ZNy Tryz.underlying90 best.rq best.rq best.rq best.rq rfl (by kernel_rfl) rfl (by kernel_rfl) rfl (by kernel_rfl) rfl (by kernel_rfl) (by kernel_rfl)
theorem best.rr:Zlb Tryz.prog 22 (ZG (Zt (Zt (Zd .i64) (Zd .i64)) (Zt (Zt (Zd .i64) (Zd .i64)) (Zt (Zt (Zd .i64) (Zd .i64)) (Zt (Zd .i64) (Zd .i64)))))) := Z3t Tryz.underlying22 best.rs (by kernel_rfl) (by decide)
theorem best.ru8:Zlb Tryz.prog 5 (Zd .u8) := Z3j Tryz.underlying5
theorem best.ra4:Zlb Tryz.prog 24 (Zt (Zd .u8) (Zt (Zd .u8) (Zt (Zd .u8) (Zd .u8)))) := ZfA Tryz.underlying24 (Z3j Tryz.underlying5) (by kernel_rfl) (by kernel_rfl)
set_option maxRecDepth 100000 in
theorem ZFz (os:Os) (started:os.Started) (H:Type) (enc:TypeId×Value→H) :
    ReturnsInHanded {} Tryz.checked os 3 .any (Rows.rubberBestSpec.pre6 enc Tryz.prog Tryz.f3 Rows.rubberBestRow.domain false) (Rows.rubberBestSpec.post enc Tryz.prog Tryz.f3 false true false false) := by
  refine returnsInHanded_of_change (C := Tryz.checked) best.own started (by kernel_rfl) Tryz.func3
    (ChangeSpec.witness6 (enc := enc) (C := Tryz.checked) false ⟨#[], #[.slice none 0 0, .slice none 0 0, .agg #[.int .u8 0, .int .u8 0, .int .u8 0, .int .u8 0], .agg #[.int .i64 0, .int .i64 0]], []⟩ 8 (by kernel_rfl) (by kernel_rfl) (by kernel_rfl) (by kernel_rfl)) ?_
  intro W base args ds gs before hval0 hW hcnd _
  have hval:∀ (j:Nat) t v, Tryz.f3.params[j]? = some t→args[j]? = some v→Value.okWide Tryz.prog W .any base t v := hval0
  have hW' := hW
  obtain ⟨p, q, hA0, hV, rfl, hfz, hnd⟩ := hW
  have hA:DataW.TrodAll enc Tryz.prog W 0 (fun _ => true) true Tryz.f3.params.toList args.toList ds p := hA0
  rw [Tryz.params3] at hA hval
  obtain ⟨v0, vs0, d0, ds0, p0, q0, hargs, rfl, rfl, h0, r0⟩ := trodAll_cons hA
  obtain ⟨v1, vs1, d1, ds1, p1, q1, rfl, rfl, rfl, h1, r1⟩ := trodAll_cons r0
  obtain ⟨v2, vs2, d2, ds2, p2, q2, rfl, rfl, rfl, h2, r2⟩ := trodAll_cons r1
  obtain ⟨v3, vs3, d3, ds3, p3, q3, rfl, rfl, rfl, h3, r3⟩ := trodAll_cons r2
  obtain ⟨rfl, rfl, rfl⟩ := trodAll_nil r3
  obtain ⟨rfl, rfl⟩ := trodVars_none hV
  obtain rfl:args = #[v0, v1, v2, v3] := by cases args; simp_all
  obtain ⟨f0, h0⟩ := h0
  obtain ⟨f1, h1⟩ := h1
  obtain ⟨f2, h2⟩ := h2
  obtain ⟨f3, h3⟩ := h3
  obtain ⟨x0, k0⟩ := best.rr _ _ _ _ _ _ h0
  obtain ⟨x1, k1⟩ := best.rl _ _ _ _ _ _ h1
  obtain ⟨x2, k2⟩ := best.ra4 _ _ _ _ _ _ h2
  obtain ⟨x3, k3⟩ := best.rq _ _ _ _ _ _ h3
  have e0 := Zxs (A := (ZG (Zt (Zt (Zd .i64) (Zd .i64)) (Zt (Zt (Zd .i64) (Zd .i64)) (Zt (Zt (Zd .i64) (Zd .i64)) (Zt (Zd .i64) (Zd .i64))))))) rfl Tryz.underlying22 (hval 0 22 v0 rfl rfl)
  have e1 := Zxs (A := (ZG (Zt (Zd .i64) (Zd .i64)))) rfl Tryz.underlying23 (hval 1 23 v1 rfl rfl)
  have e2 := ZSq (A := (Zt (Zd .u8) (Zt (Zd .u8) (Zt (Zd .u8) (Zd .u8))))) rfl (.inr ⟨_, _, Tryz.underlying24⟩) (hval 2 24 v2 rfl rfl)
  have e3 := ZSq (A := (Zt (Zd .i64) (Zd .i64))) rfl (.inl ⟨_, Tryz.underlying26⟩) (hval 3 26 v3 rfl rfl)
  obtain ⟨_, _, _, g1, _, _, _, g2, _, _, _, g3, g4⟩ := id k2
  have hm := Z1y (fun x hx => by obtain ⟨c, _, _, _, ⟨_, _, _, a1, a2⟩, _, _, _, ⟨_, _, _, b1, b2⟩, _, _, _, ⟨_, _, _, c1, c2⟩, ⟨_, _, _, d1, d2⟩⟩ := Zku k0 hx; exact ⟨⟨a1.2, a2.2⟩, ⟨b1.2, b2.2⟩, ⟨c1.2, c2.2⟩, d1.2, d2.2⟩) (fun x hx => by obtain ⟨c, c1, c2, _, ha, hb⟩ := Zku k1 hx; exact ⟨ha.2, hb.2⟩) (ws := x2) g1.2 g2.2 g3.2 g4.2 (i64_of k3)
  have hw := best4_w (ZVu W) k0 k1 k2 k3 hm
  rw [← e0, ← e1, ← e2, ← e3] at hw
  refine Calls.mono hw fun e W' ⟨r, v', he, hx, _, hr⟩ => ?_
  obtain ⟨r0, rfl, hb⟩ := hr
  obtain rfl:r0 = [.bool true] := hb
  exact ⟨_, he, ZpA best.laidOut (by decide +kernel) Tryz.underlying4 rfl rfl rfl rfl rfl hW' hx⟩
theorem best_holds:Rows.RubberBestSaid :=
  OpenClaim.holds_of_wide 3 Tryz.f3 rfl rfl rfl rfl rfl rfl rfl ⟨rfl, rfl, rfl, rfl, rfl⟩ rfl rfl rfl rfl rfl (by kernel_rfl) Tryz.func3 (by kernel_rfl)
    (of_decide_eq_true (by kernel_rfl)) (by unfold Func.isWrapper; first | (rw [if_pos (by decide +kernel)]; kernel_rfl) | (rw [if_neg (by decide +kernel)]; exact ⟨rfl, rfl⟩))
    (fun os started H enc _ => ZFz os started H enc)
end Go.Proofs.YtlaibjmfjnhaoaaGreat
