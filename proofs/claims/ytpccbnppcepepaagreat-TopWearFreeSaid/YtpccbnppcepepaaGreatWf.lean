/- TopWearFree: for every input the call returns true, and each argument reads afterwards as it read before. Conditions: none (the given statement). -/
import Derived.Test.YtpccbnppcepepaaGreatRows
import Derived.WalkKit
import Derived.ProofKit
import Derived.Test.YtpccbnppcepepaaGreatWfF
namespace Go.Proofs.YtpccbnppcepepaaGreat
open Go.ChangeShapes Go.WideShapes Go.ChangeAt Go.RowKit Go.Eng
theorem wearfree.own:ownKnob Tryz.prog.godebug = none := by kernel_rfl
theorem wearfree.laidOut:laidOutB Tryz.prog = true := by kernel_rfl
theorem wearfree.ri8:Zwb Tryz.prog 23 (Zc .i8) := Zkh Tryz.underlying23
theorem wearfree.ru8:Zwb Tryz.prog 5 (Zc .u8) := Zkh Tryz.underlying5
theorem wearfree.ra5:Zwb Tryz.prog 54 (Zx (Zc .u8) (Zx (Zc .u8) (Zx (Zc .u8) (Zx (Zc .u8) (Zc .u8))))) := ZQt Tryz.underlying54 (Zkh Tryz.underlying5) (by kernel_rfl) (by kernel_rfl)
theorem wearfree.ra3:Zwb Tryz.prog 24 (Zx (Zc .i8) (Zx (Zc .i8) (Zc .i8))) := Ztt Tryz.underlying24 (Zkh Tryz.underlying23) (by kernel_rfl) (by kernel_rfl)
theorem wearfree.ra4:Zwb Tryz.prog 25 (Zx (Zc .i8) (Zx (Zc .i8) (Zx (Zc .i8) (Zc .i8)))) := Zot Tryz.underlying25 (Zkh Tryz.underlying23) (by kernel_rfl) (by kernel_rfl)
theorem wearfree.rl:Zwb Tryz.prog 22 (Zz (Zx (Zc .u8) (Zx (Zc .u8) (Zx (Zc .u8) (Zx (Zc .u8) (Zc .u8)))))) := ZVs Tryz.underlying22 wearfree.ra5 (by kernel_rfl) (by decide)
theorem wearfree.i8_of {v:Zb} {cs:List Value} {x:Int} (h:Rep.rel (Zc .i8) v cs x):i8q x := h.2
theorem wearfree.u8_of {v:Zb} {cs:List Value} {x:Int} (h:Rep.rel (Zc .u8) v cs x):0≤x∧x < 256 := by have := Z0j.1 h.2; omega
set_option maxRecDepth 100000 in
theorem Znr (os:Os) (started:os.Started) (H:Type) (enc:TypeId×Value→H) :
    ReturnsInHanded {} Tryz.checked os 3 .any (Rows.topWearFreeSpec.pre6 enc Tryz.prog Tryz.f3 Rows.topWearFreeRow.domain false) (Rows.topWearFreeSpec.post enc Tryz.prog Tryz.f3 false true false false) := by
  refine returnsInHanded_of_change (C := Tryz.checked) wearfree.own started (by kernel_rfl) Tryz.func3
    (ChangeSpec.witness6 (enc := enc) (C := Tryz.checked) false ⟨#[], #[.slice none 0 0, .agg #[.int .i8 0, .int .i8 0, .int .i8 0], .agg #[.int .i8 0, .int .i8 0, .int .i8 0], .agg #[.int .i8 0, .int .i8 0, .int .i8 0, .int .i8 0], .int .u8 0, .int .u8 0], []⟩ 8 (by kernel_rfl) (by kernel_rfl) (by kernel_rfl) (by kernel_rfl)) ?_
  intro W base args ds gs before hval0 hW hcnd _
  have hval:∀ (j:Nat) t v, Tryz.f3.params[j]? = some t→args[j]? = some v→Value.okWide Tryz.prog W .any base t v := hval0
  have hW' := hW
  obtain ⟨p, q, hA0, hV, rfl, hfz, hnd⟩ := hW
  have hA:DataW.TrodAll enc Tryz.prog W 0 (fun _ => true) true Tryz.f3.params.toList args.toList ds p := hA0
  rw [Tryz.params3] at hA hval
  obtain ⟨v0, vs0, d0, ds0, p0, q0, hargs, rfl, rfl, h0, r0⟩ := trodAll_cons hA
  obtain ⟨v1, vs1, d1, ds1, p1, q1, rfl, rfl, rfl, h1, r1⟩ := trodAll_cons r0
  obtain ⟨v2, vs2, d2, ds2, p2, q2, rfl, rfl, rfl, h2, r2⟩ := trodAll_cons r1
  obtain ⟨v3, vs3, d3, ds3, p3, q3, rfl, rfl, rfl, h3, r3⟩ := trodAll_cons r2
  obtain ⟨v4, vs4, d4, ds4, p4, q4, rfl, rfl, rfl, h4, r4⟩ := trodAll_cons r3
  obtain ⟨v5, vs5, d5, ds5, p5, q5, rfl, rfl, rfl, h5, r5⟩ := trodAll_cons r4
  obtain ⟨rfl, rfl, rfl⟩ := trodAll_nil r5
  obtain ⟨rfl, rfl⟩ := trodVars_none hV
  obtain rfl:args = #[v0, v1, v2, v3, v4, v5] := by cases args; simp_all
  obtain ⟨f0, h0⟩ := h0
  obtain ⟨f1, h1⟩ := h1
  obtain ⟨f2, h2⟩ := h2
  obtain ⟨f3, h3⟩ := h3
  obtain ⟨f4, h4⟩ := h4
  obtain ⟨f5, h5⟩ := h5
  obtain ⟨x0, k0⟩ := wearfree.rl _ _ _ _ _ _ h0
  obtain ⟨x1, k1⟩ := wearfree.ra3 _ _ _ _ _ _ h1
  obtain ⟨x2, k2⟩ := wearfree.ra3 _ _ _ _ _ _ h2
  obtain ⟨x3, k3⟩ := wearfree.ra4 _ _ _ _ _ _ h3
  obtain ⟨x4, k4⟩ := wearfree.ru8 _ _ _ _ _ _ h4
  obtain ⟨x5, k5⟩ := wearfree.ru8 _ _ _ _ _ _ h5
  have e0 := Zvr (A := (Zz (Zx (Zc .u8) (Zx (Zc .u8) (Zx (Zc .u8) (Zx (Zc .u8) (Zc .u8))))))) rfl Tryz.underlying22 (hval 0 22 v0 rfl rfl)
  have e1 := ZIl (A := (Zx (Zc .i8) (Zx (Zc .i8) (Zc .i8)))) rfl (.inr ⟨_, _, Tryz.underlying24⟩) (hval 1 24 v1 rfl rfl)
  have e2 := ZIl (A := (Zx (Zc .i8) (Zx (Zc .i8) (Zc .i8)))) rfl (.inr ⟨_, _, Tryz.underlying24⟩) (hval 2 24 v2 rfl rfl)
  have e3 := ZIl (A := (Zx (Zc .i8) (Zx (Zc .i8) (Zx (Zc .i8) (Zc .i8))))) rfl (.inr ⟨_, _, Tryz.underlying25⟩) (hval 3 25 v3 rfl rfl)
  have e4 := Zqn (A := (Zc .u8)) rfl Tryz.underlying5 (hval 4 5 v4 rfl rfl)
  have e5 := Zqn (A := (Zc .u8)) rfl Tryz.underlying5 (hval 5 5 v5 rfl rfl)
  obtain ⟨_, _, _, g11, _, _, _, g12, g13⟩ := id k1
  obtain ⟨_, _, _, g21, _, _, _, g22, g23⟩ := id k2
  obtain ⟨_, _, _, g31, _, _, _, g32, _, _, _, g33, g34⟩ := id k3
  have hm := ZNt x0 x1 x2 x3 x4 x5 (fun x hx => by obtain ⟨c, c1, c2, _, h1, d1, d2, _, h2, e1, e2, _, h3, f1, f2, _, h4, h5⟩ := ZLt k0 hx; exact ⟨wearfree.u8_of h1, wearfree.u8_of h2, wearfree.u8_of h3, wearfree.u8_of h4, wearfree.u8_of h5⟩) (by obtain ⟨_, _, _, h1, h2⟩ := Zzo k0; unfold maxLen at h2; omega) ⟨wearfree.i8_of g11, wearfree.i8_of g12, wearfree.i8_of g13⟩ ⟨wearfree.i8_of g21, wearfree.i8_of g22, wearfree.i8_of g23⟩ ⟨wearfree.i8_of g31, wearfree.i8_of g32, wearfree.i8_of g33, wearfree.i8_of g34⟩ (wearfree.u8_of k4) (wearfree.u8_of k5)
  have hw := ZZq (Zlr W) k0 k1 k2 k3 k4 k5 hm
  rw [← e0, ← e1, ← e2, ← e3, ← e4, ← e5] at hw
  refine Calls.mono hw fun e W' ⟨r, v', he, hx, _, hr⟩ => ?_
  obtain ⟨r0, rfl, hb⟩ := hr
  obtain rfl:r0 = [.bool true] := hb
  exact ⟨_, he, Zmq wearfree.laidOut (by decide +kernel) Tryz.underlying4 rfl rfl rfl rfl rfl hW' hx⟩
theorem wearfree_holds:Rows.TopWearFreeSaid :=
  OpenClaim.holds_of_wide 3 Tryz.f3 rfl rfl rfl rfl rfl rfl rfl ⟨rfl, rfl, rfl, rfl, rfl⟩ rfl rfl rfl rfl rfl (by kernel_rfl) Tryz.func3 (by kernel_rfl)
    (of_decide_eq_true (by kernel_rfl)) (by unfold Func.isWrapper; first | (rw [if_pos (by decide +kernel)]; kernel_rfl) | (rw [if_neg (by decide +kernel)]; exact ⟨rfl, rfl⟩))
    (fun os started H enc _ => Znr os started H enc)
end Go.Proofs.YtpccbnppcepepaaGreat
