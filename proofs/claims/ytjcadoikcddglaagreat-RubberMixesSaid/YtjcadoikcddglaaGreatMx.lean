/- RubberMixes: for every input the call returns true, and each argument reads afterwards as it read before. Conditions: none (the given statement). -/
import Derived.Test.YtjcadoikcddglaaGreatRows
import Derived.WalkKit
import Derived.ProofKit
import Derived.Test.YtjcadoikcddglaaGreatMxG
namespace Go.Proofs.YtjcadoikcddglaaGreat
open Go.ChangeShapes Go.WideShapes Go.ChangeAt Go.RowKit Go.Eng
theorem mixes.own:ownKnob Tryz.prog.godebug = none := by kernel_rfl
theorem mixes.laidOut:laidOutB Tryz.prog = true := by kernel_rfl
theorem mixes.rq:ZNb Tryz.prog 73 (Zb (Zc .i64) (Zc .i64)) := Zap Tryz.underlying73 (ZDk Tryz.underlying2) (ZDk Tryz.underlying2) rfl (by kernel_rfl) rfl (by kernel_rfl) (by kernel_rfl)
theorem mixes.rs:ZNb Tryz.prog 9 Zj := Z5q Tryz.underlying9
theorem mixes.rss:ZNb Tryz.prog 96 (Zk Zj) := ZLj Tryz.underlying96 mixes.rs (by kernel_rfl) (by decide)
theorem mixes.rg:ZNb Tryz.prog 107 (Zb (Zc .i64) (Zb (Zb (Zc .i64) (Zc .i64)) Zj)) := Zyl Tryz.underlying107 (ZDk Tryz.underlying3) mixes.rq mixes.rs rfl (by kernel_rfl) rfl (by kernel_rfl) rfl (by kernel_rfl) (by kernel_rfl)
theorem mixes.rgs:ZNb Tryz.prog 97 (Zk (Zb (Zc .i64) (Zb (Zb (Zc .i64) (Zc .i64)) Zj))) := ZLj Tryz.underlying97 mixes.rg (by kernel_rfl) (by decide)
theorem mixes.rst:ZNb Tryz.prog 99 (Zb Zj (Zb (Zk Zj) (Zk (Zb (Zc .i64) (Zb (Zb (Zc .i64) (Zc .i64)) Zj))))) := Zyl Tryz.underlying99 mixes.rs mixes.rss mixes.rgs rfl (by kernel_rfl) rfl (by kernel_rfl) rfl (by kernel_rfl) (by kernel_rfl)
theorem mixes.rl:ZMn Tryz.prog 40 (Zk (Zb Zj (Zb (Zk Zj) (Zk (Zb (Zc .i64) (Zb (Zb (Zc .i64) (Zc .i64)) Zj)))))) (fun l => l.length * 64≤reachBytes) := ZMq Tryz.underlying40 mixes.rst (by kernel_rfl) (by decide) (by kernel_rfl)
theorem mixes.rf:ZNb Tryz.prog 49 (ZJ .f32) := Zos Tryz.underlying49
theorem mixes.rm:ZNb Tryz.prog 51 (Zb (ZJ .f32) (Zb (ZJ .f32) (ZJ .f32))) := Zyl Tryz.underlying51 mixes.rf mixes.rf mixes.rf rfl (by kernel_rfl) rfl (by kernel_rfl) rfl (by kernel_rfl) (by kernel_rfl)
theorem mixes.rms:ZNb Tryz.prog 41 (Zk (Zb (ZJ .f32) (Zb (ZJ .f32) (ZJ .f32)))) := ZLj Tryz.underlying41 mixes.rm (by kernel_rfl) (by decide)
set_option maxRecDepth 100000 in
theorem ZKo (os:Os) (started:os.Started) (H:Type) (enc:TypeId×Value→H) :
    ReturnsInHanded {} Tryz.checked os 4 .any (Rows.rubberMixesSpec.pre6 enc Tryz.prog Tryz.f4 Rows.rubberMixesRow.domain false) (Rows.rubberMixesSpec.post enc Tryz.prog Tryz.f4 false true false false) := by
  refine returnsInHanded_of_change_sized (C := Tryz.checked) mixes.own started (by kernel_rfl) Tryz.func4
    (ChangeSpec.witness6 (enc := enc) (C := Tryz.checked) false ⟨#[], #[.slice none 0 0, .slice none 0 0], []⟩ 8 (by kernel_rfl) (by kernel_rfl) (by kernel_rfl) (by kernel_rfl)) ?_
  intro W base args ds gs before hval0 hW hcnd hz _
  have hval:∀ (j:Nat) t v, Tryz.f4.params[j]? = some t→args[j]? = some v→Value.okWide Tryz.prog W .any base t v := hval0
  have hW' := hW
  obtain ⟨p, q, hA0, hV, rfl, hfz, hnd⟩ := hW
  have hA:DataW.TrodAll enc Tryz.prog W 0 (fun _ => true) true Tryz.f4.params.toList args.toList ds p := hA0
  rw [Tryz.params4] at hA hval
  obtain ⟨v0, vs0, d0, ds0, p0, q0, hargs, rfl, rfl, h0, r0⟩ := trodAll_cons hA
  obtain ⟨v1, vs1, d1, ds1, p1, q1, rfl, rfl, rfl, h1, r1⟩ := trodAll_cons r0
  obtain ⟨rfl, rfl, rfl⟩ := trodAll_nil r1
  obtain ⟨rfl, rfl⟩ := trodVars_none hV
  obtain rfl:args = #[v0, v1] := by cases args; simp_all
  obtain ⟨f0, h0⟩ := h0
  obtain ⟨f1, h1⟩ := h1
  obtain ⟨x0, k0, w0⟩ := mixes.rl _ _ _ _ _ _ h0
  have w0 := w0 (Zip hz (j := 0) rfl rfl)
  obtain ⟨x1, k1⟩ := mixes.rms _ _ _ _ _ _ h1
  have e0 := Zfn (A := (Zk (Zb Zj (Zb (Zk Zj) (Zk (Zb (Zc .i64) (Zb (Zb (Zc .i64) (Zc .i64)) Zj))))))) rfl Tryz.underlying40 (hval 0 40 v0 rfl rfl)
  have e1 := Zfn (A := (Zk (Zb (ZJ .f32) (Zb (ZJ .f32) (ZJ .f32))))) rfl Tryz.underlying41 (hval 1 41 v1 rfl rfl)
  have hm := ZAp x0 x1 (by unfold reachBytes at w0; omega) ⟨fun x hx => by obtain ⟨c, c1, c2, _, ⟨_, ha⟩, _⟩ := Zwi k0 hx; exact ha, fun x hx d hd => by obtain ⟨c, c1, c2, _, _, c3, c4, _, hs, _⟩ := Zwi k0 hx; obtain ⟨e, _, he⟩ := Zwi hs hd; exact he, fun x hx g hg => by obtain ⟨c, c1, c2, _, _, c3, c4, _, _, hs⟩ := Zwi k0 hx; obtain ⟨e, e1, e2, _, _, e3, e4, _, he, _⟩ := Zwi hs hg; exact i64_of he⟩
  have hw := Zwp (Zyp W) k0 k1 hm
  rw [← e0, ← e1] at hw
  refine Calls.mono hw fun e W' ⟨r, v', he, hx, _, hr⟩ => ?_
  obtain ⟨r0, rfl, hb⟩ := hr
  obtain rfl:r0 = [.bool true] := hb
  exact ⟨_, he, Z5o mixes.laidOut (by decide +kernel) Tryz.underlying4 rfl rfl rfl rfl rfl hW' hx⟩
theorem mixes_holds:Rows.RubberMixesSaid :=
  OpenClaim.holds_of_wide 4 Tryz.f4 rfl rfl rfl rfl rfl rfl rfl ⟨rfl, rfl, rfl, rfl, rfl⟩ rfl rfl rfl rfl rfl (by kernel_rfl) Tryz.func4 (by kernel_rfl)
    (of_decide_eq_true (by kernel_rfl)) (by unfold Func.isWrapper; first | (rw [if_pos (by decide +kernel)]; kernel_rfl) | (rw [if_neg (by decide +kernel)]; exact ⟨rfl, rfl⟩))
    (fun os started H enc _ => ZKo os started H enc)
end Go.Proofs.YtjcadoikcddglaaGreat
