/- LinearWithin: for every input the call returns true, and each argument reads afterwards as it read before. Conditions: none (the given statement). -/
import Derived.Test.YtceoncclknebbaaGreatRows
import Derived.WalkKit
import Derived.ProofKit
import Derived.Test.YtceoncclknebbaaGreatWiG
namespace Go.Proofs.YtceoncclknebbaaGreat
open Go.ChangeShapes Go.WideShapes Go.ChangeAt Go.RowKit Go.Eng
theorem within.own:ownKnob Tryz.prog.godebug = none := by kernel_rfl
theorem within.laidOut:laidOutB Tryz.prog = true := by kernel_rfl
theorem within.rq:ZGd Tryz.prog 25 (ZDa (Zf .i64) (Zf .i64)) := Z5y Tryz.underlying25 (ZLu Tryz.underlying2) (ZLu Tryz.underlying2) rfl (by kernel_rfl) rfl (by kernel_rfl) (by kernel_rfl)
theorem within.rl:ZGd Tryz.prog 23 (Zv (ZDa (Zf .i64) (Zf .i64))) := Zon Tryz.underlying23 within.rq (by kernel_rfl) (by decide)
theorem within.rm:ZGd Tryz.prog 22 (Zv (Zv (ZDa (Zf .i64) (Zf .i64)))) := Zon Tryz.underlying22 within.rl (by kernel_rfl) (by decide)
theorem within.rlu:ZHi Tryz.prog 23 (Zv (ZDa (Zf .i64) (Zf .i64))) (fun l => l.length≤1048576) := ZVx Tryz.underlying23 within.rq (by kernel_rfl) (by decide)
theorem within.rmu:ZHi Tryz.prog 22 (Zv (Zv (ZDa (Zf .i64) (Zf .i64)))) (fun m => ∀ r, r ∈ m→r.length≤1048576) := Zzw Tryz.underlying22 within.rlu (by kernel_rfl) (by decide)
set_option maxRecDepth 100000 in
theorem ZLx (os:Os) (started:os.Started) (H:Type) (enc:TypeId×Value→H) (F:Stop.Interp) :
    ReturnsInHanded {} Tryz.checked os 6 .any ((Rows.OpenSpec.upto Rows.linearWithinSpec).pre6 enc Tryz.prog Tryz.f6 Rows.linearWithinUptoRow.domain false) (((Rows.OpenSpec.upto Rows.linearWithinSpec).at F).post enc Tryz.prog Tryz.f6 false true false false) := by
  refine returnsInHanded_of_cond (C := Tryz.checked) (s := (Rows.OpenSpec.upto Rows.linearWithinSpec)) (k := Rows.uptoSmall) rfl within.own started (by kernel_rfl) Tryz.func6
    (OpenSpec.witness (enc := enc) (C := Tryz.checked) (s := (Rows.OpenSpec.upto Rows.linearWithinSpec)) (k := Rows.uptoSmall) rfl false ⟨#[], #[.slice none 0 0, .slice none 0 0, .slice none 0 0], []⟩ 8 (by kernel_rfl) (by kernel_rfl) (by kernel_rfl) (x := ([.nil, .nil, .nil], [], [])) (by kernel_rfl) rfl (by kernel_rfl)) ?_
  intro W base args ds gs before hval0 hW hcnd hz _
  have hval:∀ (j:Nat) t v, Tryz.f6.params[j]? = some t→args[j]? = some v→Value.okWide Tryz.prog W .any base t v := hval0
  have hW' := hW
  obtain ⟨p, q, hA0, hV, rfl, hfz, hnd⟩ := hW
  have hA:DataW.TrodAll enc Tryz.prog W 0 (fun _ => true) true Tryz.f6.params.toList args.toList ds p := hA0
  rw [Tryz.params6] at hA hval
  obtain ⟨v0, vs0, d0, ds0, p0, q0, hargs, rfl, rfl, h0, r0⟩ := trodAll_cons hA
  obtain ⟨v1, vs1, d1, ds1, p1, q1, rfl, rfl, rfl, h1, r1⟩ := trodAll_cons r0
  obtain ⟨v2, vs2, d2, ds2, p2, q2, rfl, rfl, rfl, h2, r2⟩ := trodAll_cons r1
  obtain ⟨rfl, rfl, rfl⟩ := trodAll_nil r2
  obtain ⟨rfl, rfl⟩ := trodVars_none hV
  obtain rfl:args = #[v0, v1, v2] := by cases args; simp_all
  obtain ⟨f0, h0⟩ := h0
  obtain ⟨f1, h1⟩ := h1
  obtain ⟨f2, h2⟩ := h2
  obtain ⟨x0, k0, w0⟩ := within.rmu _ _ _ _ _ _ h0
  have w0 := w0 (bulk_at hz (j := 0) rfl)
  obtain ⟨x1, k1⟩ := within.rl _ _ _ _ _ _ h1
  obtain ⟨x2, k2⟩ := within.rl _ _ _ _ _ _ h2
  have e0 := Zkn (A := (Zv (Zv (ZDa (Zf .i64) (Zf .i64))))) rfl Tryz.underlying22 (hval 0 22 v0 rfl rfl)
  have e1 := Zkn (A := (Zv (ZDa (Zf .i64) (Zf .i64)))) rfl Tryz.underlying23 (hval 1 23 v1 rfl rfl)
  have e2 := Zkn (A := (Zv (ZDa (Zf .i64) (Zf .i64)))) rfl Tryz.underlying23 (hval 2 23 v2 rfl rfl)
  have hm := ZLz (fun r hr => by obtain ⟨_, h⟩ := Znj k0 hr; exact fun x hx => by obtain ⟨c, c1, c2, _, ha, hb⟩ := Znj h hx; exact ⟨ha.2, hb.2⟩) (fun x hx => by obtain ⟨c, c1, c2, _, ha, hb⟩ := Znj k1 hx; exact ⟨ha.2, hb.2⟩) (fun x hx => by obtain ⟨c, c1, c2, _, ha, hb⟩ := Znj k2 hx; exact ⟨ha.2, hb.2⟩) w0
  have hw := ZLw (ZGw W) k0 k1 k2 hm
  rw [← e0, ← e1, ← e2] at hw
  refine Calls.mono hw fun e W' ⟨r, v', he, hx, _, hr⟩ => ?_
  obtain ⟨r0, rfl, hb⟩ := hr
  obtain rfl:r0 = [.bool true] := hb
  exact ⟨_, he, Z2A within.laidOut (by decide +kernel) Tryz.underlying4 rfl rfl rfl rfl rfl hW' hx⟩
theorem within_holds:Rows.LinearWithinUptoSaid :=
  OpenClaim.holds_of_cond 6 Tryz.f6 rfl rfl rfl rfl rfl rfl rfl ⟨rfl, rfl, rfl, rfl, rfl⟩ rfl rfl rfl rfl rfl (by kernel_rfl) Tryz.func6 (by kernel_rfl)
    (of_decide_eq_true (by kernel_rfl)) (by unfold Func.isWrapper; first | (rw [if_pos (by decide +kernel)]; kernel_rfl) | (rw [if_neg (by decide +kernel)]; exact ⟨rfl, rfl⟩))
    (fun os started H enc _ F => ZLx os started H enc F)
end Go.Proofs.YtceoncclknebbaaGreat
