/- TrialFree: for every input the call returns true, and each argument reads afterwards as it read before. Conditions: none (the given statement). -/
import Derived.Test.YtnmoidpfdhalbaaGreatRows
import Derived.WalkKit
import Derived.ProofKit
import Derived.Test.YtnmoidpfdhalbaaGreatFrG
namespace Go.Proofs.YtnmoidpfdhalbaaGreat
open Go.ChangeShapes Go.WideShapes Go.ChangeAt Go.RowKit Go.Eng
theorem free.own:ownKnob Tryz.prog.godebug = none := by kernel_rfl
theorem free.laidOut:laidOutB Tryz.prog = true := by kernel_rfl
theorem free.ri:Zwb Tryz.prog 3 (Zd .i64) := Zaj Tryz.underlying3
theorem free.rq:Zwb Tryz.prog 24 (Zt (Zd .i64) (Zd .i64)) := Z8n Tryz.underlying24 (Zaj Tryz.underlying2) (Zaj Tryz.underlying2) rfl (by kernel_rfl) rfl (by kernel_rfl) (by kernel_rfl)
theorem free.ra4:Zwb Tryz.prog 59 (Zt (Zd .i64) (Zt (Zd .i64) (Zt (Zd .i64) (Zd .i64)))) := Zys Tryz.underlying59 free.ri (by kernel_rfl) (by kernel_rfl)
theorem free.ra5:Zwb Tryz.prog 80 (Zt (Zd .u8) (Zt (Zd .u8) (Zt (Zd .u8) (Zt (Zd .u8) (Zd .u8))))) := Zwu Tryz.underlying80 (Zaj Tryz.underlying5) (by kernel_rfl) (by kernel_rfl)
theorem free.rlg:Zwb Tryz.prog 82 (Zt (Zt (Zd .i64) (Zt (Zd .i64) (Zt (Zd .i64) (Zd .i64)))) (Zt (Zd .i64) (Zd .i64))) := Z8n Tryz.underlying82 free.ra4 free.rq rfl (by kernel_rfl) rfl (by kernel_rfl) (by kernel_rfl)
theorem free.rll:ZXo Tryz.prog 60 (Zz (Zt (Zt (Zd .i64) (Zt (Zd .i64) (Zt (Zd .i64) (Zd .i64)))) (Zt (Zd .i64) (Zd .i64)))) (fun l => l.length≤1048576) := ZBw Tryz.underlying60 free.rlg (by kernel_rfl) (by decide)
theorem free.rlr:Zwb Tryz.prog 22 (Zz (Zt (Zd .i64) (Zd .i64))) := ZIp Tryz.underlying22 free.rq (by kernel_rfl) (by decide)
theorem free.u8_of {v:Zb} {cs:List Value} {x:Int} (h:Rep.rel (Zd .u8) v cs x):0≤x∧x < 256 := by have := Z4n.1 h.2; omega
set_option maxRecDepth 100000 in
theorem ZZw (os:Os) (started:os.Started) (H:Type) (enc:TypeId×Value→H) (F:Stop.Interp) :
    ReturnsInHanded {} Tryz.checked os 6 .any ((Rows.OpenSpec.upto Rows.trialFreeSpec).pre6 enc Tryz.prog Tryz.f6 Rows.trialFreeUptoRow.domain false) (((Rows.OpenSpec.upto Rows.trialFreeSpec).at F).post enc Tryz.prog Tryz.f6 false true false false) := by
  refine returnsInHanded_of_cond (C := Tryz.checked) (s := (Rows.OpenSpec.upto Rows.trialFreeSpec)) (k := Rows.uptoSmall) rfl free.own started (by kernel_rfl) Tryz.func6
    (OpenSpec.witness (enc := enc) (C := Tryz.checked) (s := (Rows.OpenSpec.upto Rows.trialFreeSpec)) (k := Rows.uptoSmall) rfl false ⟨#[], #[.agg #[.int .i64 0, .int .i64 0, .int .i64 0, .int .i64 0], .slice none 0 0, .agg #[.int .u8 0, .int .u8 0, .int .u8 0, .int .u8 0, .int .u8 0], .slice none 0 0, .agg #[.int .i64 0, .int .i64 0]], []⟩ 8 (by kernel_rfl) (by kernel_rfl) (by kernel_rfl) (x := ([.agg [.lit (.int .i64 0), .lit (.int .i64 0), .lit (.int .i64 0), .lit (.int .i64 0)], .nil, .agg [.lit (.int .u8 0), .lit (.int .u8 0), .lit (.int .u8 0), .lit (.int .u8 0), .lit (.int .u8 0)], .nil, .agg [.lit (.int .i64 0), .lit (.int .i64 0)]], [], [])) (by kernel_rfl) rfl (by kernel_rfl)) ?_
  intro W base args ds gs before hval0 hW hcnd hz _
  have hval:∀ (j:Nat) t v, Tryz.f6.params[j]? = some t→args[j]? = some v→Value.okWide Tryz.prog W .any base t v := hval0
  have hW' := hW
  obtain ⟨p, q, hA0, hV, rfl, hfz, hnd⟩ := hW
  have hA:DataW.TrodAll enc Tryz.prog W 0 (fun _ => true) true Tryz.f6.params.toList args.toList ds p := hA0
  rw [Tryz.params6] at hA hval
  obtain ⟨v0, vs0, d0, ds0, p0, q0, hargs, rfl, rfl, h0, r0⟩ := trodAll_cons hA
  obtain ⟨v1, vs1, d1, ds1, p1, q1, rfl, rfl, rfl, h1, r1⟩ := trodAll_cons r0
  obtain ⟨v2, vs2, d2, ds2, p2, q2, rfl, rfl, rfl, h2, r2⟩ := trodAll_cons r1
  obtain ⟨v3, vs3, d3, ds3, p3, q3, rfl, rfl, rfl, h3, r3⟩ := trodAll_cons r2
  obtain ⟨v4, vs4, d4, ds4, p4, q4, rfl, rfl, rfl, h4, r4⟩ := trodAll_cons r3
  obtain ⟨rfl, rfl, rfl⟩ := trodAll_nil r4
  obtain ⟨rfl, rfl⟩ := trodVars_none hV
  obtain rfl:args = #[v0, v1, v2, v3, v4] := by cases args; simp_all
  obtain ⟨f0, h0⟩ := h0
  obtain ⟨f1, h1⟩ := h1
  obtain ⟨f2, h2⟩ := h2
  obtain ⟨f3, h3⟩ := h3
  obtain ⟨f4, h4⟩ := h4
  obtain ⟨x0, k0⟩ := free.ra4 _ _ _ _ _ _ h0
  obtain ⟨x1, k1, w1⟩ := free.rll _ _ _ _ _ _ h1
  have w1 := w1 (bulk_at hz (j := 1) rfl)
  obtain ⟨x2, k2⟩ := free.ra5 _ _ _ _ _ _ h2
  obtain ⟨x3, k3⟩ := free.rlr _ _ _ _ _ _ h3
  obtain ⟨x4, k4⟩ := free.rq _ _ _ _ _ _ h4
  have e0 := ZGm (A := (Zt (Zd .i64) (Zt (Zd .i64) (Zt (Zd .i64) (Zd .i64))))) rfl (.inr ⟨_, _, Tryz.underlying59⟩) (hval 0 59 v0 rfl rfl)
  have e1 := ZEo (A := (Zz (Zt (Zt (Zd .i64) (Zt (Zd .i64) (Zt (Zd .i64) (Zd .i64)))) (Zt (Zd .i64) (Zd .i64))))) rfl Tryz.underlying60 (hval 1 60 v1 rfl rfl)
  have e2 := ZGm (A := (Zt (Zd .u8) (Zt (Zd .u8) (Zt (Zd .u8) (Zt (Zd .u8) (Zd .u8)))))) rfl (.inr ⟨_, _, Tryz.underlying80⟩) (hval 2 80 v2 rfl rfl)
  have e3 := ZEo (A := (Zz (Zt (Zd .i64) (Zd .i64)))) rfl Tryz.underlying22 (hval 3 22 v3 rfl rfl)
  have e4 := ZGm (A := (Zt (Zd .i64) (Zd .i64))) rfl (.inl ⟨_, Tryz.underlying24⟩) (hval 4 24 v4 rfl rfl)
  obtain ⟨_, _, _, g1, _, _, _, g2, _, _, _, g3, _, _, _, g4, g5⟩ := id k2
  have hm := Z5w x0 x1 x2 x3 x4 (fun x hx => by obtain ⟨c, c1, c2, _, ha, hb⟩ := ZKq k1 hx; exact Zao hb) ⟨free.u8_of g1, free.u8_of g2, free.u8_of g3, free.u8_of g4, free.u8_of g5⟩ (fun x hx => by obtain ⟨c, c1, c2, _, ha, hb⟩ := ZKq k3 hx; exact ⟨ha.2, hb.2⟩) (Zao k4) w1
  have hw := free8_w (Zgs W) k0 k1 k2 k3 k4 hm
  rw [← e0, ← e1, ← e2, ← e3, ← e4] at hw
  refine Calls.mono hw fun e W' ⟨r, v', he, hx, _, hr⟩ => ?_
  obtain ⟨r0, rfl, hb⟩ := hr
  obtain rfl:r0 = [.bool true] := hb
  exact ⟨_, he, ZDv free.laidOut (by decide +kernel) Tryz.underlying4 rfl rfl rfl rfl rfl hW' hx⟩
theorem free_holds:Rows.TrialFreeUptoSaid :=
  OpenClaim.holds_of_cond 6 Tryz.f6 rfl rfl rfl rfl rfl rfl rfl ⟨rfl, rfl, rfl, rfl, rfl⟩ rfl rfl rfl rfl rfl (by kernel_rfl) Tryz.func6 (by kernel_rfl)
    (of_decide_eq_true (by kernel_rfl)) (by unfold Func.isWrapper; first | (rw [if_pos (by decide +kernel)]; kernel_rfl) | (rw [if_neg (by decide +kernel)]; exact ⟨rfl, rfl⟩))
    (fun os started H enc _ F => ZZw os started H enc F)
end Go.Proofs.YtnmoidpfdhalbaaGreat
