/- RubberIsotherms: for every input the call returns true, and each argument reads afterwards as it read before. Conditions: none (the given statement). -/
import Derived.Test.YtcgdkcnnidfceaaGreatRows
import Derived.WalkKit
import Derived.ProofKit
import Derived.Test.YtcgdkcnnidfceaaGreatIsG
namespace Go.Proofs.YtcgdkcnnidfceaaGreat
open Go.ChangeShapes Go.WideShapes Go.ChangeAt Go.RowKit Go.Eng
theorem isotherms.own:ownKnob Tryz.prog.godebug = none := by kernel_rfl
theorem isotherms.laidOut:laidOutB Tryz.prog = true := by kernel_rfl
theorem isotherms.ru8:Zdd Tryz.prog 5 (Zc .u8) := ZNp Tryz.underlying5
theorem isotherms.ra4:Zdd Tryz.prog 22 (Zja (Zc .u8) (Zja (Zc .u8) (Zja (Zc .u8) (Zc .u8)))) := Zkw Tryz.underlying22 (ZNp Tryz.underlying5) (by kernel_rfl) (by kernel_rfl)
theorem isotherms.rsl:Zdd Tryz.prog 23 (ZB (Zc .u8)) := Zbw Tryz.underlying23 isotherms.ru8 (by kernel_rfl) (by decide)
theorem isotherms.ra2:Zdd Tryz.prog 72 (Zja (ZB (Zc .u8)) (ZB (Zc .u8))) := Znw Tryz.underlying72 isotherms.rsl (by kernel_rfl) (by kernel_rfl)
set_option maxRecDepth 100000 in
theorem ZZt (os:Os) (started:os.Started) (H:Type) (enc:TypeId×Value→H) :
    ReturnsInHanded {} Tryz.checked os 5 .any (Rows.rubberIsothermsSpec.pre6 enc Tryz.prog Tryz.f5 Rows.rubberIsothermsRow.domain false) (Rows.rubberIsothermsSpec.post enc Tryz.prog Tryz.f5 false true false false) := by
  refine returnsInHanded_of_change (C := Tryz.checked) isotherms.own started (by kernel_rfl) Tryz.func5
    (ChangeSpec.witness6 (enc := enc) (C := Tryz.checked) false ⟨#[], #[.agg #[.int .u8 0, .int .u8 0, .int .u8 0, .int .u8 0], .int .u8 0, .agg #[.slice none 0 0, .slice none 0 0], .slice none 0 0, .int .u8 0], []⟩ 8 (by kernel_rfl) (by kernel_rfl) (by kernel_rfl) (by kernel_rfl)) ?_
  intro W base args ds gs before hval0 hW hcnd _
  have hval:∀ (j:Nat) t v, Tryz.f5.params[j]? = some t→args[j]? = some v→Value.okWide Tryz.prog W .any base t v := hval0
  have hW' := hW
  obtain ⟨p, q, hA0, hV, rfl, hfz, hnd⟩ := hW
  have hA:DataW.TrodAll enc Tryz.prog W 0 (fun _ => true) true Tryz.f5.params.toList args.toList ds p := hA0
  rw [Tryz.params5] at hA hval
  obtain ⟨v0, vs0, d0, ds0, p0, q0, hargs, rfl, rfl, h0, r0⟩ := trodAll_cons hA
  obtain ⟨v1, vs1, d1, ds1, p1, q1, rfl, rfl, rfl, h1, r1⟩ := trodAll_cons r0
  obtain ⟨v2, vs2, d2, ds2, p2, q2, rfl, rfl, rfl, h2, r2⟩ := trodAll_cons r1
  obtain ⟨v3, vs3, d3, ds3, p3, q3, rfl, rfl, rfl, h3, r3⟩ := trodAll_cons r2
  obtain ⟨v4, vs4, d4, ds4, p4, q4, rfl, rfl, rfl, h4, r4⟩ := trodAll_cons r3
  obtain ⟨rfl, rfl, rfl⟩ := trodAll_nil r4
  obtain ⟨rfl, rfl⟩ := trodVars_none hV
  obtain rfl:args = #[v0, v1, v2, v3, v4] := by cases args; simp_all
  obtain ⟨f0, h0⟩ := h0
  obtain ⟨f1, h1⟩ := h1
  obtain ⟨f2, h2⟩ := h2
  obtain ⟨f3, h3⟩ := h3
  obtain ⟨f4, h4⟩ := h4
  obtain ⟨x0, k0⟩ := isotherms.ra4 _ _ _ _ _ _ h0
  obtain ⟨x1, k1⟩ := isotherms.ru8 _ _ _ _ _ _ h1
  obtain ⟨x2, k2⟩ := isotherms.ra2 _ _ _ _ _ _ h2
  obtain ⟨x3, k3⟩ := isotherms.rsl _ _ _ _ _ _ h3
  obtain ⟨x4, k4⟩ := isotherms.ru8 _ _ _ _ _ _ h4
  have e0 := Z5r (A := (Zja (Zc .u8) (Zja (Zc .u8) (Zja (Zc .u8) (Zc .u8))))) rfl (.inr ⟨_, _, Tryz.underlying22⟩) (hval 0 22 v0 rfl rfl)
  have e1 := Zer (A := (Zc .u8)) rfl Tryz.underlying5 (hval 1 5 v1 rfl rfl)
  have e2 := Z5r (A := (Zja (ZB (Zc .u8)) (ZB (Zc .u8)))) rfl (.inr ⟨_, _, Tryz.underlying72⟩) (hval 2 72 v2 rfl rfl)
  have e3 := Z7u (A := (ZB (Zc .u8))) rfl Tryz.underlying23 (hval 3 23 v3 rfl rfl)
  have e4 := Zer (A := (Zc .u8)) rfl Tryz.underlying5 (hval 4 5 v4 rfl rfl)
  obtain ⟨_, _, _, g1, _, _, _, g2, _, _, _, g3, g4⟩ := id k0
  obtain ⟨_, _, _, gp, gq⟩ := id k2
  have hm := Zmu (ws := x0) (n := x1) (places := x2) (rs := x3) (k := x4) k1.2 g1.2 g2.2 g3.2 g4.2 (fun x hx => by obtain ⟨c, h⟩ := ZOk gp hx; exact h.2) (fun x hx => by obtain ⟨c, h⟩ := ZOk gq hx; exact h.2) (fun x hx => by obtain ⟨c, h⟩ := ZOk k3 hx; exact h.2) k4.2
  have hw := ZNt (Zuu W) k0 k1 k2 k3 k4 hm
  rw [← e0, ← e1, ← e2, ← e3, ← e4] at hw
  refine Calls.mono hw fun e W' ⟨r, v', he, hx, _, hr⟩ => ?_
  obtain ⟨r0, rfl, hb⟩ := hr
  obtain rfl:r0 = [.bool true] := hb
  exact ⟨_, he, ZNu isotherms.laidOut (by decide +kernel) Tryz.underlying4 rfl rfl rfl rfl rfl hW' hx⟩
theorem isotherms_holds:Rows.RubberIsothermsSaid :=
  OpenClaim.holds_of_wide 5 Tryz.f5 rfl rfl rfl rfl rfl rfl rfl ⟨rfl, rfl, rfl, rfl, rfl⟩ rfl rfl rfl rfl rfl (by kernel_rfl) Tryz.func5 (by kernel_rfl)
    (of_decide_eq_true (by kernel_rfl)) (by unfold Func.isWrapper; first | (rw [if_pos (by decide +kernel)]; kernel_rfl) | (rw [if_neg (by decide +kernel)]; exact ⟨rfl, rfl⟩))
    (fun os started H enc _ => ZZt os started H enc)
end Go.Proofs.YtcgdkcnnidfceaaGreat
