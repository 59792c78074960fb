/- TopClassKept: for every input the call returns true, and each argument reads afterwards as it read before. Conditions: none (the given statement). -/
import Derived.Test.YtoaneiielihmcaaGreatRows
import Derived.WalkKit
import Derived.ProofKit
import Derived.Test.YtoaneiielihmcaaGreatCkE
namespace Go.Proofs.YtoaneiielihmcaaGreat
open Go.ChangeShapes Go.WideShapes Go.ChangeAt Go.RowKit Go.Eng
theorem classkept.own:ownKnob Tryz.prog.godebug = none := by kernel_rfl
theorem classkept.laidOut:laidOutB Tryz.prog = true := by kernel_rfl
theorem classkept.r16:Ztd Tryz.prog 52 (Zc .i16) := Zsj Tryz.underlying52
theorem classkept.ru8:Ztd Tryz.prog 5 (Zc .u8) := Zsj Tryz.underlying5
theorem classkept.ra:Ztd Tryz.prog 107 (Z5a (Zc .i8) (Zc .i8)) := Zyq Tryz.underlying107 (Zsj Tryz.underlying106) (by kernel_rfl) (by kernel_rfl)
theorem classkept.rl:Ztd Tryz.prog 53 (Zu (Z5a (Zc .i8) (Zc .i8))) := Zgs Tryz.underlying53 classkept.ra (by kernel_rfl) (by decide)
theorem classkept.i8_of {v:Za} {cs:List Value} {x:Int} (h:Rep.rel (Zc .i8) v cs x):-128≤x∧x≤127 := h.2
set_option maxRecDepth 100000 in
theorem ZNp (os:Os) (started:os.Started) (H:Type) (enc:TypeId×Value→H) :
    ReturnsInHanded {} Tryz.checked os 4 .any (Rows.topClassKeptSpec.pre6 enc Tryz.prog Tryz.f4 Rows.topClassKeptRow.domain false) (Rows.topClassKeptSpec.post enc Tryz.prog Tryz.f4 false true false false) := by
  refine returnsInHanded_of_change (C := Tryz.checked) classkept.own started (by kernel_rfl) Tryz.func4
    (ChangeSpec.witness6 (enc := enc) (C := Tryz.checked) false ⟨#[], #[.int .i16 0, .slice none 0 0, .slice none 0 0, .int .u8 0, .int .u8 0], []⟩ 8 (by kernel_rfl) (by kernel_rfl) (by kernel_rfl) (by kernel_rfl)) ?_
  intro W base args ds gs before hval0 hW hcnd _
  have hval:∀ (j:Nat) t v, Tryz.f4.params[j]? = some t→args[j]? = some v→Value.okWide Tryz.prog W .any base t v := hval0
  have hW' := hW
  obtain ⟨p, q, hA0, hV, rfl, hfz, hnd⟩ := hW
  have hA:DataW.TrodAll enc Tryz.prog W 0 (fun _ => true) true Tryz.f4.params.toList args.toList ds p := hA0
  rw [Tryz.params4] at hA hval
  obtain ⟨v0, vs0, d0, ds0, p0, q0, hargs, rfl, rfl, h0, r0⟩ := trodAll_cons hA
  obtain ⟨v1, vs1, d1, ds1, p1, q1, rfl, rfl, rfl, h1, r1⟩ := trodAll_cons r0
  obtain ⟨v2, vs2, d2, ds2, p2, q2, rfl, rfl, rfl, h2, r2⟩ := trodAll_cons r1
  obtain ⟨v3, vs3, d3, ds3, p3, q3, rfl, rfl, rfl, h3, r3⟩ := trodAll_cons r2
  obtain ⟨v4, vs4, d4, ds4, p4, q4, rfl, rfl, rfl, h4, r4⟩ := trodAll_cons r3
  obtain ⟨rfl, rfl, rfl⟩ := trodAll_nil r4
  obtain ⟨rfl, rfl⟩ := trodVars_none hV
  obtain rfl:args = #[v0, v1, v2, v3, v4] := by cases args; simp_all
  obtain ⟨f0, h0⟩ := h0
  obtain ⟨f1, h1⟩ := h1
  obtain ⟨f2, h2⟩ := h2
  obtain ⟨f3, h3⟩ := h3
  obtain ⟨f4, h4⟩ := h4
  obtain ⟨x0, k0⟩ := classkept.r16 _ _ _ _ _ _ h0
  obtain ⟨x1, k1⟩ := classkept.rl _ _ _ _ _ _ h1
  obtain ⟨x2, k2⟩ := classkept.rl _ _ _ _ _ _ h2
  obtain ⟨x3, k3⟩ := classkept.ru8 _ _ _ _ _ _ h3
  obtain ⟨x4, k4⟩ := classkept.ru8 _ _ _ _ _ _ h4
  have e0 := Z4k (A := (Zc .i16)) rfl Tryz.underlying52 (hval 0 52 v0 rfl rfl)
  have e1 := ZFl (A := (Zu (Z5a (Zc .i8) (Zc .i8)))) rfl Tryz.underlying53 (hval 1 53 v1 rfl rfl)
  have e2 := ZFl (A := (Zu (Z5a (Zc .i8) (Zc .i8)))) rfl Tryz.underlying53 (hval 2 53 v2 rfl rfl)
  have e3 := Z4k (A := (Zc .u8)) rfl Tryz.underlying5 (hval 3 5 v3 rfl rfl)
  have e4 := Z4k (A := (Zc .u8)) rfl Tryz.underlying5 (hval 4 5 v4 rfl rfl)
  obtain ⟨_, u0⟩ := id k0
  obtain ⟨_, u3⟩ := id k3
  obtain ⟨_, u4⟩ := id k4
  have hm := ZJr x0 x1 x2 x3 x4 u0 (fun x hx => by obtain ⟨c, c1, c2, _, ha, hb⟩ := Zbn k1 hx; exact ⟨(classkept.i8_of ha), (classkept.i8_of hb)⟩) (fun x hx => by obtain ⟨c, c1, c2, _, ha, hb⟩ := Zbn k2 hx; exact ⟨(classkept.i8_of ha), (classkept.i8_of hb)⟩) (by obtain ⟨_, _, _, h1, h2⟩ := Zyj k1; unfold maxLen at h2; omega) (by obtain ⟨_, _, _, h1, h2⟩ := Zyj k2; unfold maxLen at h2; omega) (Z8i.1 u3) (Z8i.1 u4)
  have hw := Zvs (Z4s W) k0 k1 k2 k3 k4 hm
  rw [← e0, ← e1, ← e2, ← e3, ← e4] at hw
  refine Calls.mono hw fun e W' ⟨r, v', he, hx, _, hr⟩ => ?_
  obtain ⟨r0, rfl, hb⟩ := hr
  obtain rfl:r0 = [.bool true] := hb
  exact ⟨_, he, ZIr classkept.laidOut (by decide +kernel) Tryz.underlying4 rfl rfl rfl rfl rfl hW' hx⟩
theorem classkept_holds:Rows.TopClassKeptSaid :=
  OpenClaim.holds_of_wide 4 Tryz.f4 rfl rfl rfl rfl rfl rfl rfl ⟨rfl, rfl, rfl, rfl, rfl⟩ rfl rfl rfl rfl rfl (by kernel_rfl) Tryz.func4 (by kernel_rfl)
    (of_decide_eq_true (by kernel_rfl)) (by unfold Func.isWrapper; first | (rw [if_pos (by decide +kernel)]; kernel_rfl) | (rw [if_neg (by decide +kernel)]; exact ⟨rfl, rfl⟩))
    (fun os started H enc _ => ZNp os started H enc)
end Go.Proofs.YtoaneiielihmcaaGreat
