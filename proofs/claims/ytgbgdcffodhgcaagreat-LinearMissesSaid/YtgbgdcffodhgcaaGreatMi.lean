/- LinearMisses: for every input the call returns true, and each argument reads afterwards as it read before. Conditions: none (the given statement). -/
import Derived.Test.YtgbgdcffodhgcaaGreatRows
import Derived.WalkKit
import Derived.ProofKit
import Derived.Test.YtgbgdcffodhgcaaGreatMiG
namespace Go.Proofs.YtgbgdcffodhgcaaGreat
open Go.ChangeShapes Go.WideShapes Go.ChangeAt Go.RowKit Go.Eng
theorem misses.own:ownKnob Tryz.prog.godebug = none := by kernel_rfl
theorem misses.laidOut:laidOutB Tryz.prog = true := by kernel_rfl
theorem misses.rq:Zje Tryz.prog 26 (ZSa (Zd .i64) (Zd .i64)) := Ztw Tryz.underlying26 (ZGo Tryz.underlying2) (ZGo Tryz.underlying2) rfl (by kernel_rfl) rfl (by kernel_rfl) (by kernel_rfl)
theorem misses.rl:Zje Tryz.prog 23 (Zv (ZSa (Zd .i64) (Zd .i64))) := Z5o Tryz.underlying23 misses.rq (by kernel_rfl) (by decide)
theorem misses.rm:Zje Tryz.prog 22 (Zv (Zv (ZSa (Zd .i64) (Zd .i64)))) := Z5o Tryz.underlying22 misses.rl (by kernel_rfl) (by decide)
set_option maxRecDepth 100000 in
theorem ZLu (os:Os) (started:os.Started) (H:Type) (enc:TypeId×Value→H) :
    ReturnsInHanded {} Tryz.checked os 4 .any (Rows.linearMissesSpec.pre6 enc Tryz.prog Tryz.f4 Rows.linearMissesRow.domain false) (Rows.linearMissesSpec.post enc Tryz.prog Tryz.f4 false true false false) := by
  refine returnsInHanded_of_change (C := Tryz.checked) misses.own started (by kernel_rfl) Tryz.func4
    (ChangeSpec.witness6 (enc := enc) (C := Tryz.checked) false ⟨#[], #[.slice none 0 0, .slice none 0 0, .slice none 0 0], []⟩ 8 (by kernel_rfl) (by kernel_rfl) (by kernel_rfl) (by kernel_rfl)) ?_
  intro W base args ds gs before hval0 hW hcnd _
  have hval:∀ (j:Nat) t v, Tryz.f4.params[j]? = some t→args[j]? = some v→Value.okWide Tryz.prog W .any base t v := hval0
  have hW' := hW
  obtain ⟨p, q, hA0, hV, rfl, hfz, hnd⟩ := hW
  have hA:DataW.TrodAll enc Tryz.prog W 0 (fun _ => true) true Tryz.f4.params.toList args.toList ds p := hA0
  rw [Tryz.params4] at hA hval
  obtain ⟨v0, vs0, d0, ds0, p0, q0, hargs, rfl, rfl, h0, r0⟩ := trodAll_cons hA
  obtain ⟨v1, vs1, d1, ds1, p1, q1, rfl, rfl, rfl, h1, r1⟩ := trodAll_cons r0
  obtain ⟨v2, vs2, d2, ds2, p2, q2, rfl, rfl, rfl, h2, r2⟩ := trodAll_cons r1
  obtain ⟨rfl, rfl, rfl⟩ := trodAll_nil r2
  obtain ⟨rfl, rfl⟩ := trodVars_none hV
  obtain rfl:args = #[v0, v1, v2] := by cases args; simp_all
  obtain ⟨f0, h0⟩ := h0
  obtain ⟨f1, h1⟩ := h1
  obtain ⟨f2, h2⟩ := h2
  obtain ⟨x0, k0⟩ := misses.rm _ _ _ _ _ _ h0
  obtain ⟨x1, k1⟩ := misses.rl _ _ _ _ _ _ h1
  obtain ⟨x2, k2⟩ := misses.rl _ _ _ _ _ _ h2
  have e0 := Z0k (A := (Zv (Zv (ZSa (Zd .i64) (Zd .i64))))) rfl Tryz.underlying22 (hval 0 22 v0 rfl rfl)
  have e1 := Z0k (A := (Zv (ZSa (Zd .i64) (Zd .i64)))) rfl Tryz.underlying23 (hval 1 23 v1 rfl rfl)
  have e2 := Z0k (A := (Zv (ZSa (Zd .i64) (Zd .i64)))) rfl Tryz.underlying23 (hval 2 23 v2 rfl rfl)
  have hm := Zey (fun r hr => by obtain ⟨_, h⟩ := ZGj k0 hr; exact fun x hx => by obtain ⟨c, c1, c2, _, ha, hb⟩ := ZGj h hx; exact ⟨ha.2, hb.2⟩) (fun x hx => by obtain ⟨c, c1, c2, _, ha, hb⟩ := ZGj k1 hx; exact ⟨ha.2, hb.2⟩) (fun x hx => by obtain ⟨c, c1, c2, _, ha, hb⟩ := ZGj k2 hx; exact ⟨ha.2, hb.2⟩)
  have hw := ZXu (ZFv W) k0 k1 k2 hm
  rw [← e0, ← e1, ← e2] at hw
  refine Calls.mono hw fun e W' ⟨r, v', he, hx, _, hr⟩ => ?_
  obtain ⟨r0, rfl, hb⟩ := hr
  obtain rfl:r0 = [.bool true] := hb
  exact ⟨_, he, ZJt misses.laidOut (by decide +kernel) Tryz.underlying4 rfl rfl rfl rfl rfl hW' hx⟩
theorem misses_holds:Rows.LinearMissesSaid :=
  OpenClaim.holds_of_wide 4 Tryz.f4 rfl rfl rfl rfl rfl rfl rfl ⟨rfl, rfl, rfl, rfl, rfl⟩ rfl rfl rfl rfl rfl (by kernel_rfl) Tryz.func4 (by kernel_rfl)
    (of_decide_eq_true (by kernel_rfl)) (by unfold Func.isWrapper; first | (rw [if_pos (by decide +kernel)]; kernel_rfl) | (rw [if_neg (by decide +kernel)]; exact ⟨rfl, rfl⟩))
    (fun os started H enc _ => ZLu os started H enc)
end Go.Proofs.YtgbgdcffodhgcaaGreat
