/- LinearBounds: for every input the call returns true, and each argument reads afterwards as it read before. Conditions: none (the given statement). -/
import Derived.Test.YtgbgdcffodhgcaaGreatRows
import Derived.WalkKit
import Derived.ProofKit
import Derived.Test.YtgbgdcffodhgcaaGreatBdG
namespace Go.Proofs.YtgbgdcffodhgcaaGreat
open Go.ChangeShapes Go.WideShapes Go.ChangeAt Go.RowKit Go.Eng
theorem bounds.own:ownKnob Tryz.prog.godebug = none := by kernel_rfl
theorem bounds.laidOut:laidOutB Tryz.prog = true := by kernel_rfl
theorem bounds.rq:Zoc Tryz.prog 26 (ZP (Zd .i64) (Zd .i64)) := Zpu Tryz.underlying26 (Znr Tryz.underlying2) (Znr Tryz.underlying2) rfl (by kernel_rfl) rfl (by kernel_rfl) (by kernel_rfl)
theorem bounds.rl:Zoc Tryz.prog 23 (Zr (ZP (Zd .i64) (Zd .i64))) := Zcp Tryz.underlying23 bounds.rq (by kernel_rfl) (by decide)
theorem bounds.rm:Zoc Tryz.prog 22 (Zr (Zr (ZP (Zd .i64) (Zd .i64)))) := Zcp Tryz.underlying22 bounds.rl (by kernel_rfl) (by decide)
theorem bounds.ra:Zoc Tryz.prog 24 (ZP (Zr (ZP (Zd .i64) (Zd .i64))) (Zr (ZP (Zd .i64) (Zd .i64)))) := Z6x Tryz.underlying24 bounds.rl (by kernel_rfl) (by kernel_rfl)
set_option maxRecDepth 100000 in
theorem ZOv (os:Os) (started:os.Started) (H:Type) (enc:TypeId×Value→H) :
    ReturnsInHanded {} Tryz.checked os 3 .any (Rows.linearBoundsSpec.pre6 enc Tryz.prog Tryz.f3 Rows.linearBoundsRow.domain false) (Rows.linearBoundsSpec.post enc Tryz.prog Tryz.f3 false true false false) := by
  refine returnsInHanded_of_change (C := Tryz.checked) bounds.own started (by kernel_rfl) Tryz.func3
    (ChangeSpec.witness6 (enc := enc) (C := Tryz.checked) false ⟨#[], #[.slice none 0 0, .slice none 0 0, .slice none 0 0, .agg #[.slice none 0 0, .slice none 0 0], .agg #[.int .i64 0, .int .i64 0]], []⟩ 8 (by kernel_rfl) (by kernel_rfl) (by kernel_rfl) (by kernel_rfl)) ?_
  intro W base args ds gs before hval0 hW hcnd _
  have hval:∀ (j:Nat) t v, Tryz.f3.params[j]? = some t→args[j]? = some v→Value.okWide Tryz.prog W .any base t v := hval0
  have hW' := hW
  obtain ⟨p, q, hA0, hV, rfl, hfz, hnd⟩ := hW
  have hA:DataW.TrodAll enc Tryz.prog W 0 (fun _ => true) true Tryz.f3.params.toList args.toList ds p := hA0
  rw [Tryz.params3] at hA hval
  obtain ⟨v0, vs0, d0, ds0, p0, q0, hargs, rfl, rfl, h0, r0⟩ := trodAll_cons hA
  obtain ⟨v1, vs1, d1, ds1, p1, q1, rfl, rfl, rfl, h1, r1⟩ := trodAll_cons r0
  obtain ⟨v2, vs2, d2, ds2, p2, q2, rfl, rfl, rfl, h2, r2⟩ := trodAll_cons r1
  obtain ⟨v3, vs3, d3, ds3, p3, q3, rfl, rfl, rfl, h3, r3⟩ := trodAll_cons r2
  obtain ⟨v4, vs4, d4, ds4, p4, q4, rfl, rfl, rfl, h4, r4⟩ := trodAll_cons r3
  obtain ⟨rfl, rfl, rfl⟩ := trodAll_nil r4
  obtain ⟨rfl, rfl⟩ := trodVars_none hV
  obtain rfl:args = #[v0, v1, v2, v3, v4] := by cases args; simp_all
  obtain ⟨f0, h0⟩ := h0
  obtain ⟨f1, h1⟩ := h1
  obtain ⟨f2, h2⟩ := h2
  obtain ⟨f3, h3⟩ := h3
  obtain ⟨f4, h4⟩ := h4
  obtain ⟨x0, k0⟩ := bounds.rm _ _ _ _ _ _ h0
  obtain ⟨x1, k1⟩ := bounds.rl _ _ _ _ _ _ h1
  obtain ⟨x2, k2⟩ := bounds.rl _ _ _ _ _ _ h2
  obtain ⟨x3, k3⟩ := bounds.ra _ _ _ _ _ _ h3
  obtain ⟨x4, k4⟩ := bounds.rq _ _ _ _ _ _ h4
  have e0 := ZIk (A := (Zr (Zr (ZP (Zd .i64) (Zd .i64))))) rfl Tryz.underlying22 (hval 0 22 v0 rfl rfl)
  have e1 := ZIk (A := (Zr (ZP (Zd .i64) (Zd .i64)))) rfl Tryz.underlying23 (hval 1 23 v1 rfl rfl)
  have e2 := ZIk (A := (Zr (ZP (Zd .i64) (Zd .i64)))) rfl Tryz.underlying23 (hval 2 23 v2 rfl rfl)
  have e3 := Zsp (A := (ZP (Zr (ZP (Zd .i64) (Zd .i64))) (Zr (ZP (Zd .i64) (Zd .i64))))) rfl (.inr ⟨_, _, Tryz.underlying24⟩) (hval 3 24 v3 rfl rfl)
  have e4 := Zsp (A := (ZP (Zd .i64) (Zd .i64))) rfl (.inl ⟨_, Tryz.underlying26⟩) (hval 4 26 v4 rfl rfl)
  have hm := ZJu (fun r hr => by obtain ⟨_, h⟩ := ZWg k0 hr; exact fun x hx => by obtain ⟨c, c1, c2, _, ha, hb⟩ := ZWg h hx; exact ⟨ha.2, hb.2⟩) (fun x hx => by obtain ⟨c, c1, c2, _, ha, hb⟩ := ZWg k1 hx; exact ⟨ha.2, hb.2⟩) (fun x hx => by obtain ⟨c, c1, c2, _, ha, hb⟩ := ZWg k2 hx; exact ⟨ha.2, hb.2⟩) (by obtain ⟨a1, a2, _, ha, hb⟩ := k3; exact (fun x hx => by obtain ⟨c, c1, c2, _, ha, hb⟩ := ZWg ha hx; exact ⟨ha.2, hb.2⟩)) (by obtain ⟨a1, a2, _, ha, hb⟩ := k3; exact (fun x hx => by obtain ⟨c, c1, c2, _, ha, hb⟩ := ZWg hb hx; exact ⟨ha.2, hb.2⟩)) (by obtain ⟨c1, c2, _, ha, hb⟩ := k4; exact ⟨ha.2, hb.2⟩)
  have hw := Z9w (ZJx W) k0 k1 k2 k3 k4 hm
  rw [← e0, ← e1, ← e2, ← e3, ← e4] at hw
  refine Calls.mono hw fun e W' ⟨r, v', he, hx, _, hr⟩ => ?_
  obtain ⟨r0, rfl, hb⟩ := hr
  obtain rfl:r0 = [.bool true] := hb
  exact ⟨_, he, Z7t bounds.laidOut (by decide +kernel) Tryz.underlying4 rfl rfl rfl rfl rfl hW' hx⟩
theorem bounds_holds:Rows.LinearBoundsSaid :=
  OpenClaim.holds_of_wide 3 Tryz.f3 rfl rfl rfl rfl rfl rfl rfl ⟨rfl, rfl, rfl, rfl, rfl⟩ rfl rfl rfl rfl rfl (by kernel_rfl) Tryz.func3 (by kernel_rfl)
    (of_decide_eq_true (by kernel_rfl)) (by unfold Func.isWrapper; first | (rw [if_pos (by decide +kernel)]; kernel_rfl) | (rw [if_neg (by decide +kernel)]; exact ⟨rfl, rfl⟩))
    (fun os started H enc _ => ZOv os started H enc)
end Go.Proofs.YtgbgdcffodhgcaaGreat
