/- RubberMasters: for every input the call returns true, and each argument reads afterwards as it read before. Conditions: none (the given statement). -/
import Derived.Test.YtggdgpplccamkaaGreatRows
import Derived.WalkKit
import Derived.ProofKit
import Derived.Test.YtggdgpplccamkaaGreatMsH
namespace Go.Proofs.YtggdgpplccamkaaGreat
open Go.ChangeShapes Go.WideShapes Go.ChangeAt Go.RowKit Go.Eng
theorem masters.own:ownKnob Tryz.prog.godebug = none := by kernel_rfl
theorem masters.laidOut:laidOutB Tryz.prog = true := by kernel_rfl
theorem masters.rq:Zcc Tryz.prog 87 (ZB (Zd .i64) (Zd .i64)) := Zwy Tryz.underlying87 (Zms Tryz.underlying2) (Zms Tryz.underlying2) rfl (by kernel_rfl) rfl (by kernel_rfl) (by kernel_rfl)
theorem masters.rl:Zcc Tryz.prog 23 (ZA (ZB (Zd .i64) (Zd .i64))) := Zpp Tryz.underlying23 masters.rq (by kernel_rfl) (by decide)
theorem masters.rs:Zcc Tryz.prog 89 (ZB (ZB (Zd .i64) (Zd .i64)) (ZB (ZB (Zd .i64) (Zd .i64)) (ZB (ZB (Zd .i64) (Zd .i64)) (ZB (Zd .i64) (Zd .i64))))) := Z6z Tryz.underlying89 masters.rq masters.rq masters.rq masters.rq rfl (by kernel_rfl) rfl (by kernel_rfl) rfl (by kernel_rfl) rfl (by kernel_rfl) (by kernel_rfl)
theorem masters.rr:Zcc Tryz.prog 22 (ZA (ZB (ZB (Zd .i64) (Zd .i64)) (ZB (ZB (Zd .i64) (Zd .i64)) (ZB (ZB (Zd .i64) (Zd .i64)) (ZB (Zd .i64) (Zd .i64)))))) := Zpp Tryz.underlying22 masters.rs (by kernel_rfl) (by decide)
theorem masters.rm:Zcc Tryz.prog 66 (ZA (ZA (ZB (ZB (Zd .i64) (Zd .i64)) (ZB (ZB (Zd .i64) (Zd .i64)) (ZB (ZB (Zd .i64) (Zd .i64)) (ZB (Zd .i64) (Zd .i64))))))) := Zpp Tryz.underlying66 masters.rr (by kernel_rfl) (by decide)
set_option maxRecDepth 100000 in
theorem Zax (os:Os) (started:os.Started) (H:Type) (enc:TypeId×Value→H) :
    ReturnsInHanded {} Tryz.checked os 5 .any (Rows.rubberMastersSpec.pre6 enc Tryz.prog Tryz.f5 Rows.rubberMastersRow.domain false) (Rows.rubberMastersSpec.post enc Tryz.prog Tryz.f5 false true false false) := by
  refine returnsInHanded_of_change (C := Tryz.checked) masters.own started (by kernel_rfl) Tryz.func5
    (ChangeSpec.witness6 (enc := enc) (C := Tryz.checked) false ⟨#[], #[.slice none 0 0, .slice none 0 0, .slice none 0 0], []⟩ 8 (by kernel_rfl) (by kernel_rfl) (by kernel_rfl) (by kernel_rfl)) ?_
  intro W base args ds gs before hval0 hW hcnd _
  have hval:∀ (j:Nat) t v, Tryz.f5.params[j]? = some t→args[j]? = some v→Value.okWide Tryz.prog W .any base t v := hval0
  have hW' := hW
  obtain ⟨p, q, hA0, hV, rfl, hfz, hnd⟩ := hW
  have hA:DataW.TrodAll enc Tryz.prog W 0 (fun _ => true) true Tryz.f5.params.toList args.toList ds p := hA0
  rw [Tryz.params5] at hA hval
  obtain ⟨v0, vs0, d0, ds0, p0, q0, hargs, rfl, rfl, h0, r0⟩ := trodAll_cons hA
  obtain ⟨v1, vs1, d1, ds1, p1, q1, rfl, rfl, rfl, h1, r1⟩ := trodAll_cons r0
  obtain ⟨v2, vs2, d2, ds2, p2, q2, rfl, rfl, rfl, h2, r2⟩ := trodAll_cons r1
  obtain ⟨rfl, rfl, rfl⟩ := trodAll_nil r2
  obtain ⟨rfl, rfl⟩ := trodVars_none hV
  obtain rfl:args = #[v0, v1, v2] := by cases args; simp_all
  obtain ⟨f0, h0⟩ := h0
  obtain ⟨f1, h1⟩ := h1
  obtain ⟨f2, h2⟩ := h2
  obtain ⟨x0, k0⟩ := masters.rm _ _ _ _ _ _ h0
  obtain ⟨x1, k1⟩ := masters.rl _ _ _ _ _ _ h1
  obtain ⟨x2, k2⟩ := masters.rl _ _ _ _ _ _ h2
  have e0 := ZCp (A := (ZA (ZA (ZB (ZB (Zd .i64) (Zd .i64)) (ZB (ZB (Zd .i64) (Zd .i64)) (ZB (ZB (Zd .i64) (Zd .i64)) (ZB (Zd .i64) (Zd .i64)))))))) rfl Tryz.underlying66 (hval 0 66 v0 rfl rfl)
  have e1 := ZCp (A := (ZA (ZB (Zd .i64) (Zd .i64)))) rfl Tryz.underlying23 (hval 1 23 v1 rfl rfl)
  have e2 := ZCp (A := (ZA (ZB (Zd .i64) (Zd .i64)))) rfl Tryz.underlying23 (hval 2 23 v2 rfl rfl)
  have hm := Zuy (fun r hr => by obtain ⟨_, h⟩ := Zcm k0 hr; exact fun x hx => by obtain ⟨c, _, _, _, ⟨_, _, _, a1, a2⟩, _, _, _, ⟨_, _, _, b1, b2⟩, _, _, _, ⟨_, _, _, c1, c2⟩, ⟨_, _, _, d1, d2⟩⟩ := Zcm h hx; exact ⟨⟨a1.2, a2.2⟩, ⟨b1.2, b2.2⟩, ⟨c1.2, c2.2⟩, d1.2, d2.2⟩) (fun x hx => by obtain ⟨c, c1, c2, _, ha, hb⟩ := Zcm k1 hx; exact ⟨ha.2, hb.2⟩) (fun x hx => by obtain ⟨c, c1, c2, _, ha, hb⟩ := Zcm k2 hx; exact ⟨ha.2, hb.2⟩)
  have hw := Zty (ZIx W) k0 k1 k2 hm
  rw [← e0, ← e1, ← e2] at hw
  refine Calls.mono hw fun e W' ⟨r, v', he, hx, _, hr⟩ => ?_
  obtain ⟨r0, rfl, hb⟩ := hr
  obtain rfl:r0 = [.bool true] := hb
  exact ⟨_, he, Z6y masters.laidOut (by decide +kernel) Tryz.underlying4 rfl rfl rfl rfl rfl hW' hx⟩
theorem masters_holds:Rows.RubberMastersSaid :=
  OpenClaim.holds_of_wide 5 Tryz.f5 rfl rfl rfl rfl rfl rfl rfl ⟨rfl, rfl, rfl, rfl, rfl⟩ rfl rfl rfl rfl rfl (by kernel_rfl) Tryz.func5 (by kernel_rfl)
    (of_decide_eq_true (by kernel_rfl)) (by unfold Func.isWrapper; first | (rw [if_pos (by decide +kernel)]; kernel_rfl) | (rw [if_neg (by decide +kernel)]; exact ⟨rfl, rfl⟩))
    (fun os started H enc _ => Zax os started H enc)
end Go.Proofs.YtggdgpplccamkaaGreat
