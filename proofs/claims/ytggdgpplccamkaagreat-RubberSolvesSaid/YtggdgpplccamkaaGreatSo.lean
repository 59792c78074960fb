/- RubberSolves: for every input the call returns true, and each argument reads afterwards as it read before. Conditions: none (the given statement). -/
import Derived.Test.YtggdgpplccamkaaGreatRows
import Derived.WalkKit
import Derived.ProofKit
import Derived.Test.YtggdgpplccamkaaGreatSoG
namespace Go.Proofs.YtggdgpplccamkaaGreat
open Go.ChangeShapes Go.WideShapes Go.ChangeAt Go.RowKit Go.Eng
theorem solves.own:ownKnob Tryz.prog.godebug = none := by kernel_rfl
theorem solves.laidOut:laidOutB Tryz.prog = true := by kernel_rfl
theorem solves.rq:Zdc Tryz.prog 87 (ZH (Zd .i64) (Zd .i64)) := ZjB Tryz.underlying87 (Z2t Tryz.underlying2) (Z2t Tryz.underlying2) rfl (by kernel_rfl) rfl (by kernel_rfl) (by kernel_rfl)
theorem solves.rl:Zdc Tryz.prog 23 (ZD (ZH (Zd .i64) (Zd .i64))) := ZQs Tryz.underlying23 solves.rq (by kernel_rfl) (by decide)
theorem solves.rs:Zdc Tryz.prog 89 (ZH (ZH (Zd .i64) (Zd .i64)) (ZH (ZH (Zd .i64) (Zd .i64)) (ZH (ZH (Zd .i64) (Zd .i64)) (ZH (Zd .i64) (Zd .i64))))) := ZHA Tryz.underlying89 solves.rq solves.rq solves.rq solves.rq rfl (by kernel_rfl) rfl (by kernel_rfl) rfl (by kernel_rfl) rfl (by kernel_rfl) (by kernel_rfl)
theorem solves.rr:Zdc Tryz.prog 22 (ZD (ZH (ZH (Zd .i64) (Zd .i64)) (ZH (ZH (Zd .i64) (Zd .i64)) (ZH (ZH (Zd .i64) (Zd .i64)) (ZH (Zd .i64) (Zd .i64)))))) := ZQs Tryz.underlying22 solves.rs (by kernel_rfl) (by decide)
set_option maxRecDepth 100000 in
theorem ZEA (os:Os) (started:os.Started) (H:Type) (enc:TypeId×Value→H) :
    ReturnsInHanded {} Tryz.checked os 3 .any (Rows.rubberSolvesSpec.pre6 enc Tryz.prog Tryz.f3 Rows.rubberSolvesRow.domain false) (Rows.rubberSolvesSpec.post enc Tryz.prog Tryz.f3 false true false false) := by
  refine returnsInHanded_of_change (C := Tryz.checked) solves.own started (by kernel_rfl) Tryz.func3
    (ChangeSpec.witness6 (enc := enc) (C := Tryz.checked) false ⟨#[], #[.slice none 0 0, .slice none 0 0], []⟩ 8 (by kernel_rfl) (by kernel_rfl) (by kernel_rfl) (by kernel_rfl)) ?_
  intro W base args ds gs before hval0 hW hcnd _
  have hval:∀ (j:Nat) t v, Tryz.f3.params[j]? = some t→args[j]? = some v→Value.okWide Tryz.prog W .any base t v := hval0
  have hW' := hW
  obtain ⟨p, q, hA0, hV, rfl, hfz, hnd⟩ := hW
  have hA:DataW.TrodAll enc Tryz.prog W 0 (fun _ => true) true Tryz.f3.params.toList args.toList ds p := hA0
  rw [Tryz.params3] at hA hval
  obtain ⟨v0, vs0, d0, ds0, p0, q0, hargs, rfl, rfl, h0, r0⟩ := trodAll_cons hA
  obtain ⟨v1, vs1, d1, ds1, p1, q1, rfl, rfl, rfl, h1, r1⟩ := trodAll_cons r0
  obtain ⟨rfl, rfl, rfl⟩ := trodAll_nil r1
  obtain ⟨rfl, rfl⟩ := trodVars_none hV
  obtain rfl:args = #[v0, v1] := by cases args; simp_all
  obtain ⟨f0, h0⟩ := h0
  obtain ⟨f1, h1⟩ := h1
  obtain ⟨x0, k0⟩ := solves.rr _ _ _ _ _ _ h0
  obtain ⟨x1, k1⟩ := solves.rl _ _ _ _ _ _ h1
  have e0 := Zfr (A := (ZD (ZH (ZH (Zd .i64) (Zd .i64)) (ZH (ZH (Zd .i64) (Zd .i64)) (ZH (ZH (Zd .i64) (Zd .i64)) (ZH (Zd .i64) (Zd .i64))))))) rfl Tryz.underlying22 (hval 0 22 v0 rfl rfl)
  have e1 := Zfr (A := (ZD (ZH (Zd .i64) (Zd .i64)))) rfl Tryz.underlying23 (hval 1 23 v1 rfl rfl)
  have hm := ZNB (fun x hx => by obtain ⟨c, _, _, _, ⟨_, _, _, a1, a2⟩, _, _, _, ⟨_, _, _, b1, b2⟩, _, _, _, ⟨_, _, _, c1, c2⟩, ⟨_, _, _, d1, d2⟩⟩ := Z7r k0 hx; exact ⟨⟨a1.2, a2.2⟩, ⟨b1.2, b2.2⟩, ⟨c1.2, c2.2⟩, d1.2, d2.2⟩) (fun x hx => by obtain ⟨c, c1, c2, _, ha, hb⟩ := Z7r k1 hx; exact ⟨ha.2, hb.2⟩)
  have hw := Zfw (Zpy W) k0 k1 hm
  rw [← e0, ← e1] at hw
  refine Calls.mono hw fun e W' ⟨r, v', he, hx, _, hr⟩ => ?_
  obtain ⟨r0, rfl, hb⟩ := hr
  obtain rfl:r0 = [.bool true] := hb
  exact ⟨_, he, ZPy solves.laidOut (by decide +kernel) Tryz.underlying4 rfl rfl rfl rfl rfl hW' hx⟩
theorem solves_holds:Rows.RubberSolvesSaid :=
  OpenClaim.holds_of_wide 3 Tryz.f3 rfl rfl rfl rfl rfl rfl rfl ⟨rfl, rfl, rfl, rfl, rfl⟩ rfl rfl rfl rfl rfl (by kernel_rfl) Tryz.func3 (by kernel_rfl)
    (of_decide_eq_true (by kernel_rfl)) (by unfold Func.isWrapper; first | (rw [if_pos (by decide +kernel)]; kernel_rfl) | (rw [if_neg (by decide +kernel)]; exact ⟨rfl, rfl⟩))
    (fun os started H enc _ => ZEA os started H enc)
end Go.Proofs.YtggdgpplccamkaaGreat
