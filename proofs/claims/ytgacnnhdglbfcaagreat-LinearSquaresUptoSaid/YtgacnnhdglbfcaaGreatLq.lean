/- LinearSquares: for every input the call returns true, and each argument reads afterwards as it read before. Conditions: none (the given statement). -/
import Derived.Test.YtgacnnhdglbfcaaGreatRows
import Derived.WalkKit
import Derived.ProofKit
import Derived.Test.YtgacnnhdglbfcaaGreatLqG
namespace Go.Proofs.YtgacnnhdglbfcaaGreat
open Go.ChangeShapes Go.WideShapes Go.ChangeAt Go.RowKit Go.Eng
theorem squares.own:ownKnob Tryz.prog.godebug = none := by kernel_rfl
theorem squares.laidOut:laidOutB Tryz.prog = true := by kernel_rfl
theorem squares.rq:Zfe Tryz.prog 88 (Zpb (Zd .i64) (Zd .i64)) := Zky Tryz.underlying88 (ZRt Tryz.underlying2) (ZRt Tryz.underlying2) rfl (by kernel_rfl) rfl (by kernel_rfl) (by kernel_rfl)
theorem squares.rl:Zfe Tryz.prog 23 (Zw (Zpb (Zd .i64) (Zd .i64))) := ZIn Tryz.underlying23 squares.rq (by kernel_rfl) (by decide)
theorem squares.rm:Zfe Tryz.prog 22 (Zw (Zw (Zpb (Zd .i64) (Zd .i64)))) := ZIn Tryz.underlying22 squares.rl (by kernel_rfl) (by decide)
theorem squares.rlu:Zsj Tryz.prog 23 (Zw (Zpb (Zd .i64) (Zd .i64))) (fun l => l.length≤1048576) := ZWx Tryz.underlying23 squares.rq (by kernel_rfl) (by decide)
theorem squares.rmu:Zsj Tryz.prog 22 (Zw (Zw (Zpb (Zd .i64) (Zd .i64)))) (fun m => ∀ r, r ∈ m→r.length≤1048576) := Z2y Tryz.underlying22 squares.rlu (by kernel_rfl) (by decide)
set_option maxRecDepth 100000 in
theorem ZNx (os:Os) (started:os.Started) (H:Type) (enc:TypeId×Value→H) (F:Stop.Interp) :
    ReturnsInHanded {} Tryz.checked os 4 .any ((Rows.OpenSpec.upto Rows.linearSquaresSpec).pre6 enc Tryz.prog Tryz.f4 Rows.linearSquaresUptoRow.domain false) (((Rows.OpenSpec.upto Rows.linearSquaresSpec).at F).post enc Tryz.prog Tryz.f4 false true false false) := by
  refine returnsInHanded_of_cond (C := Tryz.checked) (s := (Rows.OpenSpec.upto Rows.linearSquaresSpec)) (k := Rows.uptoSmall) rfl squares.own started (by kernel_rfl) Tryz.func4
    (OpenSpec.witness (enc := enc) (C := Tryz.checked) (s := (Rows.OpenSpec.upto Rows.linearSquaresSpec)) (k := Rows.uptoSmall) rfl false ⟨#[], #[.slice none 0 0, .slice none 0 0], []⟩ 8 (by kernel_rfl) (by kernel_rfl) (by kernel_rfl) (x := ([.nil, .nil], [], [])) (by kernel_rfl) rfl (by kernel_rfl)) ?_
  intro W base args ds gs before hval0 hW hcnd hz _
  have hval:∀ (j:Nat) t v, Tryz.f4.params[j]? = some t→args[j]? = some v→Value.okWide Tryz.prog W .any base t v := hval0
  have hW' := hW
  obtain ⟨p, q, hA0, hV, rfl, hfz, hnd⟩ := hW
  have hA:DataW.TrodAll enc Tryz.prog W 0 (fun _ => true) true Tryz.f4.params.toList args.toList ds p := hA0
  rw [Tryz.params4] at hA hval
  obtain ⟨v0, vs0, d0, ds0, p0, q0, hargs, rfl, rfl, h0, r0⟩ := trodAll_cons hA
  obtain ⟨v1, vs1, d1, ds1, p1, q1, rfl, rfl, rfl, h1, r1⟩ := trodAll_cons r0
  obtain ⟨rfl, rfl, rfl⟩ := trodAll_nil r1
  obtain ⟨rfl, rfl⟩ := trodVars_none hV
  obtain rfl:args = #[v0, v1] := by cases args; simp_all
  obtain ⟨f0, h0⟩ := h0
  obtain ⟨f1, h1⟩ := h1
  obtain ⟨x0, k0, w0⟩ := squares.rmu _ _ _ _ _ _ h0
  have w0 := w0 (bulk_at hz (j := 0) rfl)
  obtain ⟨x1, k1⟩ := squares.rl _ _ _ _ _ _ h1
  have e0 := Z1r (A := (Zw (Zw (Zpb (Zd .i64) (Zd .i64))))) rfl Tryz.underlying22 (hval 0 22 v0 rfl rfl)
  have e1 := Z1r (A := (Zw (Zpb (Zd .i64) (Zd .i64)))) rfl Tryz.underlying23 (hval 1 23 v1 rfl rfl)
  have hm := ZGw (fun r hr => by obtain ⟨_, h⟩ := Zjo k0 hr; exact fun x hx => by obtain ⟨c, c1, c2, _, ha, hb⟩ := Zjo h hx; exact ⟨ha.2, hb.2⟩) (fun x hx => by obtain ⟨c, c1, c2, _, ha, hb⟩ := Zjo k1 hx; exact ⟨ha.2, hb.2⟩) w0
  have hw := Z4z (Zdy W) k0 k1 hm
  rw [← e0, ← e1] at hw
  refine Calls.mono hw fun e W' ⟨r, v', he, hx, _, hr⟩ => ?_
  obtain ⟨r0, rfl, hb⟩ := hr
  obtain rfl:r0 = [.bool true] := hb
  exact ⟨_, he, Zaz squares.laidOut (by decide +kernel) Tryz.underlying4 rfl rfl rfl rfl rfl hW' hx⟩
theorem squares_holds:Rows.LinearSquaresUptoSaid :=
  OpenClaim.holds_of_cond 4 Tryz.f4 rfl rfl rfl rfl rfl rfl rfl ⟨rfl, rfl, rfl, rfl, rfl⟩ rfl rfl rfl rfl rfl (by kernel_rfl) Tryz.func4 (by kernel_rfl)
    (of_decide_eq_true (by kernel_rfl)) (by unfold Func.isWrapper; first | (rw [if_pos (by decide +kernel)]; kernel_rfl) | (rw [if_neg (by decide +kernel)]; exact ⟨rfl, rfl⟩))
    (fun os started H enc _ F => ZNx os started H enc F)
end Go.Proofs.YtgacnnhdglbfcaaGreat
