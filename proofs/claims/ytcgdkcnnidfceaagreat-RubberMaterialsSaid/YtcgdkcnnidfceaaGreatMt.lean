/- RubberMaterials: for every input the call returns true, and each argument reads afterwards as it read before. Conditions: none (the given statement). -/
import Derived.Test.YtcgdkcnnidfceaaGreatRows
import Derived.WalkKit
import Derived.ProofKit
import Derived.Test.YtcgdkcnnidfceaaGreatMtG
namespace Go.Proofs.YtcgdkcnnidfceaaGreat
open Go.ChangeShapes Go.WideShapes Go.ChangeAt Go.RowKit Go.Eng
theorem materials.own:ownKnob Tryz.prog.godebug = none := by kernel_rfl
theorem materials.laidOut:laidOutB Tryz.prog = true := by kernel_rfl
theorem materials.ru8:Zee Tryz.prog 5 (Zc .u8) := Zqn Tryz.underlying5
theorem materials.ra4:Zee Tryz.prog 22 (ZW (Zc .u8) (ZW (Zc .u8) (ZW (Zc .u8) (Zc .u8)))) := Zdq Tryz.underlying22 (Zqn Tryz.underlying5) (by kernel_rfl) (by kernel_rfl)
theorem materials.rsl:Zee Tryz.prog 23 (ZF (Zc .u8)) := Zjv Tryz.underlying23 materials.ru8 (by kernel_rfl) (by decide)
theorem materials.rb4:Zee Tryz.prog 25 (ZW (Zc .i8) (ZW (Zc .i8) (ZW (Zc .i8) (Zc .i8)))) := Zdq Tryz.underlying25 (Zqn Tryz.underlying24) (by kernel_rfl) (by kernel_rfl)
set_option maxRecDepth 100000 in
theorem Zjw (os:Os) (started:os.Started) (H:Type) (enc:TypeId×Value→H) :
    ReturnsInHanded {} Tryz.checked os 3 .any (Rows.rubberMaterialsSpec.pre6 enc Tryz.prog Tryz.f3 Rows.rubberMaterialsRow.domain false) (Rows.rubberMaterialsSpec.post enc Tryz.prog Tryz.f3 false true false false) := by
  refine returnsInHanded_of_change (C := Tryz.checked) materials.own started (by kernel_rfl) Tryz.func3
    (ChangeSpec.witness6 (enc := enc) (C := Tryz.checked) false ⟨#[], #[.agg #[.int .u8 0, .int .u8 0, .int .u8 0, .int .u8 0], .int .u8 0, .slice none 0 0, .agg #[.int .i8 0, .int .i8 0, .int .i8 0, .int .i8 0]], []⟩ 8 (by kernel_rfl) (by kernel_rfl) (by kernel_rfl) (by kernel_rfl)) ?_
  intro W base args ds gs before hval0 hW hcnd _
  have hval:∀ (j:Nat) t v, Tryz.f3.params[j]? = some t→args[j]? = some v→Value.okWide Tryz.prog W .any base t v := hval0
  have hW' := hW
  obtain ⟨p, q, hA0, hV, rfl, hfz, hnd⟩ := hW
  have hA:DataW.TrodAll enc Tryz.prog W 0 (fun _ => true) true Tryz.f3.params.toList args.toList ds p := hA0
  rw [Tryz.params3] at hA hval
  obtain ⟨v0, vs0, d0, ds0, p0, q0, hargs, rfl, rfl, h0, r0⟩ := trodAll_cons hA
  obtain ⟨v1, vs1, d1, ds1, p1, q1, rfl, rfl, rfl, h1, r1⟩ := trodAll_cons r0
  obtain ⟨v2, vs2, d2, ds2, p2, q2, rfl, rfl, rfl, h2, r2⟩ := trodAll_cons r1
  obtain ⟨v3, vs3, d3, ds3, p3, q3, rfl, rfl, rfl, h3, r3⟩ := trodAll_cons r2
  obtain ⟨rfl, rfl, rfl⟩ := trodAll_nil r3
  obtain ⟨rfl, rfl⟩ := trodVars_none hV
  obtain rfl:args = #[v0, v1, v2, v3] := by cases args; simp_all
  obtain ⟨f0, h0⟩ := h0
  obtain ⟨f1, h1⟩ := h1
  obtain ⟨f2, h2⟩ := h2
  obtain ⟨f3, h3⟩ := h3
  obtain ⟨x0, k0⟩ := materials.ra4 _ _ _ _ _ _ h0
  obtain ⟨x1, k1⟩ := materials.ru8 _ _ _ _ _ _ h1
  obtain ⟨x2, k2⟩ := materials.rsl _ _ _ _ _ _ h2
  obtain ⟨x3, k3⟩ := materials.rb4 _ _ _ _ _ _ h3
  have e0 := ZPo (A := (ZW (Zc .u8) (ZW (Zc .u8) (ZW (Zc .u8) (Zc .u8))))) rfl (.inr ⟨_, _, Tryz.underlying22⟩) (hval 0 22 v0 rfl rfl)
  have e1 := val_int (A := (Zc .u8)) rfl Tryz.underlying5 (hval 1 5 v1 rfl rfl)
  have e2 := Z3w (A := (ZF (Zc .u8))) rfl Tryz.underlying23 (hval 2 23 v2 rfl rfl)
  have e3 := ZPo (A := (ZW (Zc .i8) (ZW (Zc .i8) (ZW (Zc .i8) (Zc .i8))))) rfl (.inr ⟨_, _, Tryz.underlying25⟩) (hval 3 25 v3 rfl rfl)
  obtain ⟨_, _, _, g1, _, _, _, g2, _, _, _, g3, g4⟩ := id k0
  obtain ⟨_, _, _, t1, _, _, _, t2, _, _, _, t3, t4⟩ := id k3
  have hm := ZLx (ws := x0) (n := x1) (places := x2) (off := x3) k1.2 g1.2 g2.2 g3.2 g4.2 (fun x hx => by obtain ⟨c, h⟩ := ZAv k2 hx; exact h.2) t1.2 t2.2 t3.2 t4.2
  have hw := Zww (Z3u W) k0 k1 k2 k3 hm
  rw [← e0, ← e1, ← e2, ← e3] at hw
  refine Calls.mono hw fun e W' ⟨r, v', he, hx, _, hr⟩ => ?_
  obtain ⟨r0, rfl, hb⟩ := hr
  obtain rfl:r0 = [.bool true] := hb
  exact ⟨_, he, Zdx materials.laidOut (by decide +kernel) Tryz.underlying4 rfl rfl rfl rfl rfl hW' hx⟩
theorem materials_holds:Rows.RubberMaterialsSaid :=
  OpenClaim.holds_of_wide 3 Tryz.f3 rfl rfl rfl rfl rfl rfl rfl ⟨rfl, rfl, rfl, rfl, rfl⟩ rfl rfl rfl rfl rfl (by kernel_rfl) Tryz.func3 (by kernel_rfl)
    (of_decide_eq_true (by kernel_rfl)) (by unfold Func.isWrapper; first | (rw [if_pos (by decide +kernel)]; kernel_rfl) | (rw [if_neg (by decide +kernel)]; exact ⟨rfl, rfl⟩))
    (fun os started H enc _ => Zjw os started H enc)
end Go.Proofs.YtcgdkcnnidfceaaGreat
