/- TrialSums: for every input the call returns true, and each argument reads afterwards as it read before. Conditions: none (the given statement). -/
import Derived.Test.YtoaneiielihmcaaGreatRows
import Derived.WalkKit
import Derived.ProofKit
import Derived.Test.YtoaneiielihmcaaGreatSmF
namespace Go.Proofs.YtoaneiielihmcaaGreat
open Go.ChangeShapes Go.WideShapes Go.ChangeAt Go.RowKit Go.Eng
theorem sums.own:ownKnob Tryz.prog.godebug = none := by kernel_rfl
theorem sums.laidOut:laidOutB Tryz.prog = true := by kernel_rfl
theorem sums.rq:Z5d Tryz.prog 75 (ZQ (Zd .i64) (Zd .i64)) := Znq Tryz.underlying75 (Zbp Tryz.underlying2) (Zbp Tryz.underlying2) rfl (by kernel_rfl) rfl (by kernel_rfl) (by kernel_rfl)
theorem sums.rp:Z5d Tryz.prog 91 (ZQ (ZQ (Zd .i64) (Zd .i64)) (ZQ (Zd .i64) (Zd .i64))) := Znq Tryz.underlying91 sums.rq sums.rq rfl (by kernel_rfl) rfl (by kernel_rfl) (by kernel_rfl)
theorem sums.rl:Z5d Tryz.prog 22 (Zy (ZQ (ZQ (Zd .i64) (Zd .i64)) (ZQ (Zd .i64) (Zd .i64)))) := Z8q Tryz.underlying22 sums.rp (by kernel_rfl) (by decide)
set_option maxRecDepth 100000 in
theorem ZVt (os:Os) (started:os.Started) (H:Type) (enc:TypeId×Value→H) :
    ReturnsInHanded {} Tryz.checked os 3 .any (Rows.trialSumsSpec.pre6 enc Tryz.prog Tryz.f3 Rows.trialSumsRow.domain false) (Rows.trialSumsSpec.post enc Tryz.prog Tryz.f3 false true false false) := by
  refine returnsInHanded_of_change (C := Tryz.checked) sums.own started (by kernel_rfl) Tryz.func3
    (ChangeSpec.witness6 (enc := enc) (C := Tryz.checked) false ⟨#[], #[.slice none 0 0, .slice none 0 0], []⟩ 8 (by kernel_rfl) (by kernel_rfl) (by kernel_rfl) (by kernel_rfl)) ?_
  intro W base args ds gs before hval0 hW hcnd _
  have hval:∀ (j:Nat) t v, Tryz.f3.params[j]? = some t→args[j]? = some v→Value.okWide Tryz.prog W .any base t v := hval0
  have hW' := hW
  obtain ⟨p, q, hA0, hV, rfl, hfz, hnd⟩ := hW
  have hA:DataW.TrodAll enc Tryz.prog W 0 (fun _ => true) true Tryz.f3.params.toList args.toList ds p := hA0
  rw [Tryz.params3] at hA hval
  obtain ⟨v0, vs0, d0, ds0, p0, q0, hargs, rfl, rfl, h0, r0⟩ := trodAll_cons hA
  obtain ⟨v1, vs1, d1, ds1, p1, q1, rfl, rfl, rfl, h1, r1⟩ := trodAll_cons r0
  obtain ⟨rfl, rfl, rfl⟩ := trodAll_nil r1
  obtain ⟨rfl, rfl⟩ := trodVars_none hV
  obtain rfl:args = #[v0, v1] := by cases args; simp_all
  obtain ⟨f0, h0⟩ := h0
  obtain ⟨f1, h1⟩ := h1
  obtain ⟨x0, k0⟩ := sums.rl _ _ _ _ _ _ h0
  obtain ⟨x1, k1⟩ := sums.rl _ _ _ _ _ _ h1
  have e0 := ZSo (A := (Zy (ZQ (ZQ (Zd .i64) (Zd .i64)) (ZQ (Zd .i64) (Zd .i64))))) rfl Tryz.underlying22 (hval 0 22 v0 rfl rfl)
  have e1 := ZSo (A := (Zy (ZQ (ZQ (Zd .i64) (Zd .i64)) (ZQ (Zd .i64) (Zd .i64))))) rfl Tryz.underlying22 (hval 1 22 v1 rfl rfl)
  have hm := Zfu x0 x1 (fun x hx => by obtain ⟨c, c1, c2, _, ha, hb⟩ := ZSp k0 hx; exact ⟨ZBi ha, ZBi hb⟩) (fun x hx => by obtain ⟨c, c1, c2, _, ha, hb⟩ := ZSp k1 hx; exact ⟨ZBi ha, ZBi hb⟩)
  have hw := sums8_w (Zdv W) k0 k1 hm
  rw [← e0, ← e1] at hw
  refine Calls.mono hw fun e W' ⟨r, v', he, hx, _, hr⟩ => ?_
  obtain ⟨r0, rfl, hb⟩ := hr
  obtain rfl:r0 = [.bool true] := hb
  exact ⟨_, he, ZNr sums.laidOut (by decide +kernel) Tryz.underlying4 rfl rfl rfl rfl rfl hW' hx⟩
theorem sums_holds:Rows.TrialSumsSaid :=
  OpenClaim.holds_of_wide 3 Tryz.f3 rfl rfl rfl rfl rfl rfl rfl ⟨rfl, rfl, rfl, rfl, rfl⟩ rfl rfl rfl rfl rfl (by kernel_rfl) Tryz.func3 (by kernel_rfl)
    (of_decide_eq_true (by kernel_rfl)) (by unfold Func.isWrapper; first | (rw [if_pos (by decide +kernel)]; kernel_rfl) | (rw [if_neg (by decide +kernel)]; exact ⟨rfl, rfl⟩))
    (fun os started H enc _ => ZVt os started H enc)
end Go.Proofs.YtoaneiielihmcaaGreat
