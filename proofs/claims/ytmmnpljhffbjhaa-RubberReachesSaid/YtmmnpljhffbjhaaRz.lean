/- RubberReaches: for every input the call returns true, and each argument reads afterwards as it read before. Conditions: none (the given statement). -/
import Derived.Test.YtmmnpljhffbjhaaRows
import Derived.WalkKit
import Derived.ProofKit
import Derived.Test.YtmmnpljhffbjhaaRzE
namespace Go.Proofs.Ytmmnpljhffbjhaa
open Go.ChangeShapes Go.WideShapes Go.ChangeAt Go.RowKit Go.Eng
theorem reaches.own : ownKnob Try.prog.godebug = none := by kernel_rfl
theorem reaches.laidOut : laidOutB Try.prog = true := by kernel_rfl
theorem reaches.r24 : Z4b Try.prog 24 (Zt (Ze .i64) (Ze .i64)) := Zrl Try.underlying24 (Zff Try.underlying2) (Zff Try.underlying2) rfl (by kernel_rfl) rfl (by kernel_rfl) (by kernel_rfl)
theorem reaches.r28 : Z4b Try.prog 28 (Zt (Ze .u8) (Zt (Ze .u8) (Ze .u8))) := Z8k Try.underlying28 (Zff Try.underlying5) (Zff Try.underlying5) (Zff Try.underlying5) rfl (by kernel_rfl) rfl (by kernel_rfl) rfl (by kernel_rfl) (by kernel_rfl)
theorem reaches.r22 : Z4b Try.prog 22 (ZK (Zt (Ze .u8) (Zt (Ze .u8) (Ze .u8)))) := Zbl Try.underlying22 reaches.r28 (by kernel_rfl) (by decide)
set_option maxRecDepth 100000 in
theorem ZVk (os : Os) (started : os.Started) (H : Type) (enc : TypeId × Value → H) :
    ReturnsInHanded {} Try.checked os 3 .any (Rows.rubberReachesSpec.pre6 enc Try.prog Try.f3 Rows.rubberReachesRow.domain false) (Rows.rubberReachesSpec.post enc Try.prog Try.f3 false true false false) := by
  refine returnsInHanded_of_change (C := Try.checked) reaches.own started (by kernel_rfl) Try.func3
    (ChangeSpec.witness6 (enc := enc) (C := Try.checked) false ⟨#[], #[.slice none 0 0, .agg #[.int .i64 0, .int .i64 0], .agg #[.int .i64 0, .int .i64 0]], []⟩ 8 (by kernel_rfl) (by kernel_rfl) (by kernel_rfl) (by kernel_rfl)) ?_
  intro W base args ds gs before hval0 hW hcnd _
  have hval : ∀ (j : Nat) t v, Try.f3.params[j]? = some t → args[j]? = some v → Value.okWide Try.prog W .any base t v := hval0
  have hW' := hW
  obtain ⟨p, q, hA0, hV, rfl, hfz, hnd⟩ := hW
  have hA : DataW.TrodAll enc Try.prog W 0 (fun _ => true) true Try.f3.params.toList args.toList ds p := hA0
  rw [Try.params3] at hA hval
  obtain ⟨v0, vs0, d0, ds0, p0, q0, hargs, rfl, rfl, h0, r0⟩ := trodAll_cons hA
  obtain ⟨v1, vs1, d1, ds1, p1, q1, rfl, rfl, rfl, h1, r1⟩ := trodAll_cons r0
  obtain ⟨v2, vs2, d2, ds2, p2, q2, rfl, rfl, rfl, h2, r2⟩ := trodAll_cons r1
  obtain ⟨rfl, rfl, rfl⟩ := trodAll_nil r2
  obtain ⟨rfl, rfl⟩ := trodVars_none hV
  obtain rfl : args = #[v0, v1, v2] := by cases args; simp_all
  obtain ⟨f0, h0⟩ := h0
  obtain ⟨f1, h1⟩ := h1
  obtain ⟨f2, h2⟩ := h2
  obtain ⟨x0, k0⟩ := reaches.r22 _ _ _ _ _ _ h0
  obtain ⟨x1, k1⟩ := reaches.r24 _ _ _ _ _ _ h1
  obtain ⟨x2, k2⟩ := reaches.r24 _ _ _ _ _ _ h2
  have e0 := Zdn (A := (ZK (Zt (Ze .u8) (Zt (Ze .u8) (Ze .u8))))) rfl Try.underlying22 (hval 0 22 v0 rfl rfl)
  have e1 := Zxi (A := (Zt (Ze .i64) (Ze .i64))) rfl (.inl ⟨_, Try.underlying24⟩) (hval 1 24 v1 rfl rfl)
  have e2 := Zxi (A := (Zt (Ze .i64) (Ze .i64))) rfl (.inl ⟨_, Try.underlying24⟩) (hval 2 24 v2 rfl rfl)
  have hm := ZSm x0 x1 x2 (fun x hx => by obtain ⟨c, c1, c2, _, ⟨_, ha⟩, c3, c4, _, ⟨_, hb⟩, _, _⟩ := Zjl k0 hx; exact ⟨(ZRd.1 ha).1, (ZRd.1 ha).2, (ZRd.1 hb).1, (ZRd.1 hb).2⟩) (Zni k1) (Zni k2)
  have hw := Zum (Zvl W) k0 k1 k2 hm
  rw [← e0, ← e1, ← e2] at hw
  refine Calls.mono hw fun e W' ⟨r, v', he, hx, _, hr⟩ => ?_
  obtain ⟨r0, rfl, hb⟩ := hr
  obtain rfl : r0 = [.bool true] := hb
  exact ⟨_, he, ZMk reaches.laidOut (by decide +kernel) Try.underlying4 rfl rfl rfl rfl rfl hW' hx⟩
theorem reaches_holds : Rows.RubberReachesSaid :=
  OpenClaim.holds_of_wide 3 Try.f3 rfl rfl rfl rfl rfl rfl rfl ⟨rfl, rfl, rfl, rfl, rfl⟩ rfl rfl rfl rfl rfl (by kernel_rfl) Try.func3 (by kernel_rfl)
    (of_decide_eq_true (by kernel_rfl)) (by unfold Func.isWrapper; first | (rw [if_pos (by decide +kernel)]; kernel_rfl) | (rw [if_neg (by decide +kernel)]; exact ⟨rfl, rfl⟩))
    (fun os started H enc _ => ZVk os started H enc)
end Go.Proofs.Ytmmnpljhffbjhaa
