/- RubberShifts: for every input the call returns true, and each argument reads afterwards as it read before. Conditions: none (the given statement). -/
import Derived.Test.YtggdgpplccamkaaGreatRows
import Derived.WalkKit
import Derived.ProofKit
import Derived.Test.YtggdgpplccamkaaGreatShH
namespace Go.Proofs.YtggdgpplccamkaaGreat
open Go.ChangeShapes Go.WideShapes Go.ChangeAt Go.RowKit Go.Eng
theorem shifts.own:ownKnob Tryz.prog.godebug = none := by kernel_rfl
theorem shifts.laidOut:laidOutB Tryz.prog = true := by kernel_rfl
theorem shifts.rq:Zgc Tryz.prog 87 (Zq (Zd .i64) (Zd .i64)) := ZpA Tryz.underlying87 (Znr Tryz.underlying2) (Znr Tryz.underlying2) rfl (by kernel_rfl) rfl (by kernel_rfl) (by kernel_rfl)
theorem shifts.rl:Zgc Tryz.prog 23 (ZC (Zq (Zd .i64) (Zd .i64))) := Zyq Tryz.underlying23 shifts.rq (by kernel_rfl) (by decide)
theorem shifts.rs:Zgc Tryz.prog 89 (Zq (Zq (Zd .i64) (Zd .i64)) (Zq (Zq (Zd .i64) (Zd .i64)) (Zq (Zq (Zd .i64) (Zd .i64)) (Zq (Zd .i64) (Zd .i64))))) := ZJB Tryz.underlying89 shifts.rq shifts.rq shifts.rq shifts.rq rfl (by kernel_rfl) rfl (by kernel_rfl) rfl (by kernel_rfl) rfl (by kernel_rfl) (by kernel_rfl)
theorem shifts.rr:Zgc Tryz.prog 22 (ZC (Zq (Zq (Zd .i64) (Zd .i64)) (Zq (Zq (Zd .i64) (Zd .i64)) (Zq (Zq (Zd .i64) (Zd .i64)) (Zq (Zd .i64) (Zd .i64)))))) := Zyq Tryz.underlying22 shifts.rs (by kernel_rfl) (by decide)
set_option maxRecDepth 100000 in
theorem ZFA (os:Os) (started:os.Started) (H:Type) (enc:TypeId×Value→H) :
    ReturnsInHanded {} Tryz.checked os 4 .any (Rows.rubberShiftsSpec.pre6 enc Tryz.prog Tryz.f4 Rows.rubberShiftsRow.domain false) (Rows.rubberShiftsSpec.post enc Tryz.prog Tryz.f4 false true false false) := by
  refine returnsInHanded_of_change (C := Tryz.checked) shifts.own started (by kernel_rfl) Tryz.func4
    (ChangeSpec.witness6 (enc := enc) (C := Tryz.checked) false ⟨#[], #[.slice none 0 0, .slice none 0 0, .slice none 0 0, .slice none 0 0], []⟩ 8 (by kernel_rfl) (by kernel_rfl) (by kernel_rfl) (by kernel_rfl)) ?_
  intro W base args ds gs before hval0 hW hcnd _
  have hval:∀ (j:Nat) t v, Tryz.f4.params[j]? = some t→args[j]? = some v→Value.okWide Tryz.prog W .any base t v := hval0
  have hW' := hW
  obtain ⟨p, q, hA0, hV, rfl, hfz, hnd⟩ := hW
  have hA:DataW.TrodAll enc Tryz.prog W 0 (fun _ => true) true Tryz.f4.params.toList args.toList ds p := hA0
  rw [Tryz.params4] at hA hval
  obtain ⟨v0, vs0, d0, ds0, p0, q0, hargs, rfl, rfl, h0, r0⟩ := trodAll_cons hA
  obtain ⟨v1, vs1, d1, ds1, p1, q1, rfl, rfl, rfl, h1, r1⟩ := trodAll_cons r0
  obtain ⟨v2, vs2, d2, ds2, p2, q2, rfl, rfl, rfl, h2, r2⟩ := trodAll_cons r1
  obtain ⟨v3, vs3, d3, ds3, p3, q3, rfl, rfl, rfl, h3, r3⟩ := trodAll_cons r2
  obtain ⟨rfl, rfl, rfl⟩ := trodAll_nil r3
  obtain ⟨rfl, rfl⟩ := trodVars_none hV
  obtain rfl:args = #[v0, v1, v2, v3] := by cases args; simp_all
  obtain ⟨f0, h0⟩ := h0
  obtain ⟨f1, h1⟩ := h1
  obtain ⟨f2, h2⟩ := h2
  obtain ⟨f3, h3⟩ := h3
  obtain ⟨x0, k0⟩ := shifts.rr _ _ _ _ _ _ h0
  obtain ⟨x1, k1⟩ := shifts.rr _ _ _ _ _ _ h1
  obtain ⟨x2, k2⟩ := shifts.rl _ _ _ _ _ _ h2
  obtain ⟨x3, k3⟩ := shifts.rl _ _ _ _ _ _ h3
  have e0 := ZNk (A := (ZC (Zq (Zq (Zd .i64) (Zd .i64)) (Zq (Zq (Zd .i64) (Zd .i64)) (Zq (Zq (Zd .i64) (Zd .i64)) (Zq (Zd .i64) (Zd .i64))))))) rfl Tryz.underlying22 (hval 0 22 v0 rfl rfl)
  have e1 := ZNk (A := (ZC (Zq (Zq (Zd .i64) (Zd .i64)) (Zq (Zq (Zd .i64) (Zd .i64)) (Zq (Zq (Zd .i64) (Zd .i64)) (Zq (Zd .i64) (Zd .i64))))))) rfl Tryz.underlying22 (hval 1 22 v1 rfl rfl)
  have e2 := ZNk (A := (ZC (Zq (Zd .i64) (Zd .i64)))) rfl Tryz.underlying23 (hval 2 23 v2 rfl rfl)
  have e3 := ZNk (A := (ZC (Zq (Zd .i64) (Zd .i64)))) rfl Tryz.underlying23 (hval 3 23 v3 rfl rfl)
  have hm := Z8x (fun x hx => by obtain ⟨c, _, _, _, ⟨_, _, _, a1, a2⟩, _, _, _, ⟨_, _, _, b1, b2⟩, _, _, _, ⟨_, _, _, c1, c2⟩, ⟨_, _, _, d1, d2⟩⟩ := Zdk k0 hx; exact ⟨⟨a1.2, a2.2⟩, ⟨b1.2, b2.2⟩, ⟨c1.2, c2.2⟩, d1.2, d2.2⟩) (fun x hx => by obtain ⟨c, _, _, _, ⟨_, _, _, a1, a2⟩, _, _, _, ⟨_, _, _, b1, b2⟩, _, _, _, ⟨_, _, _, c1, c2⟩, ⟨_, _, _, d1, d2⟩⟩ := Zdk k1 hx; exact ⟨⟨a1.2, a2.2⟩, ⟨b1.2, b2.2⟩, ⟨c1.2, c2.2⟩, d1.2, d2.2⟩) (fun x hx => by obtain ⟨c, c1, c2, _, ha, hb⟩ := Zdk k2 hx; exact ⟨ha.2, hb.2⟩) (fun x hx => by obtain ⟨c, c1, c2, _, ha, hb⟩ := Zdk k3 hx; exact ⟨ha.2, hb.2⟩)
  have hw := Zfw (Z2x W) k0 k1 k2 k3 hm
  rw [← e0, ← e1, ← e2, ← e3] at hw
  refine Calls.mono hw fun e W' ⟨r, v', he, hx, _, hr⟩ => ?_
  obtain ⟨r0, rfl, hb⟩ := hr
  obtain rfl:r0 = [.bool true] := hb
  exact ⟨_, he, Zjx shifts.laidOut (by decide +kernel) Tryz.underlying4 rfl rfl rfl rfl rfl hW' hx⟩
theorem shifts_holds:Rows.RubberShiftsSaid :=
  OpenClaim.holds_of_wide 4 Tryz.f4 rfl rfl rfl rfl rfl rfl rfl ⟨rfl, rfl, rfl, rfl, rfl⟩ rfl rfl rfl rfl rfl (by kernel_rfl) Tryz.func4 (by kernel_rfl)
    (of_decide_eq_true (by kernel_rfl)) (by unfold Func.isWrapper; first | (rw [if_pos (by decide +kernel)]; kernel_rfl) | (rw [if_neg (by decide +kernel)]; exact ⟨rfl, rfl⟩))
    (fun os started H enc _ => ZFA os started H enc)
end Go.Proofs.YtggdgpplccamkaaGreat
