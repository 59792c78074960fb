/- RubberProofs: for every input the call returns true, and each argument reads afterwards as it read before. Conditions: none (the given statement). -/
import Derived.Test.YtpjddkamahambaaGreatRows
import Derived.WalkKit
import Derived.ProofKit
import Derived.Test.YtpjddkamahambaaGreatPfG
namespace Go.Proofs.YtpjddkamahambaaGreat
open Go.ChangeShapes Go.WideShapes Go.ChangeAt Go.RowKit Go.Eng
theorem proofs.own:ownKnob Tryz.prog.godebug = none := by kernel_rfl
theorem proofs.laidOut:laidOutB Tryz.prog = true := by kernel_rfl
theorem proofs.rq:Z3b Tryz.prog 38 (Zi (Zd .i64) (Zd .i64)) := ZDm Tryz.underlying38 (ZRn Tryz.underlying2) (ZRn Tryz.underlying2) rfl (by kernel_rfl) rfl (by kernel_rfl) (by kernel_rfl)
theorem proofs.rlq:Z3b Tryz.prog 90 (Zz (Zi (Zd .i64) (Zd .i64))) := ZFl Tryz.underlying90 proofs.rq (by kernel_rfl) (by decide)
theorem proofs.rp:Z3b Tryz.prog 112 (Zi (Zi (Zd .i64) (Zd .i64)) (Zi (Zd .i64) (Zd .i64))) := Z4p Tryz.underlying112 proofs.rq (by kernel_rfl) (by kernel_rfl)
theorem proofs.rml:Z3b Tryz.prog 91 (Zz (Zi (Zi (Zd .i64) (Zd .i64)) (Zi (Zd .i64) (Zd .i64)))) := ZFl Tryz.underlying91 proofs.rp (by kernel_rfl) (by decide)
theorem proofs.rrb:Z3b Tryz.prog 93 (Zi (Zi (Zd .i64) (Zd .i64)) (Zz (Zi (Zi (Zd .i64) (Zd .i64)) (Zi (Zd .i64) (Zd .i64))))) := ZDm Tryz.underlying93 proofs.rq proofs.rml rfl (by kernel_rfl) rfl (by kernel_rfl) (by kernel_rfl)
theorem proofs.rrd:Z3b Tryz.prog 175 (Zi (Zi (Zd .i64) (Zd .i64)) (Zi (Zi (Zd .i64) (Zd .i64)) (Zi (Zi (Zd .i64) (Zd .i64)) (Zi (Zd .i64) (Zd .i64))))) := ZXq Tryz.underlying175 proofs.rq proofs.rq proofs.rq proofs.rq rfl (by kernel_rfl) rfl (by kernel_rfl) rfl (by kernel_rfl) rfl (by kernel_rfl) (by kernel_rfl)
theorem proofs.rlr:Z3b Tryz.prog 89 (Zz (Zi (Zi (Zd .i64) (Zd .i64)) (Zi (Zi (Zd .i64) (Zd .i64)) (Zi (Zi (Zd .i64) (Zd .i64)) (Zi (Zd .i64) (Zd .i64)))))) := ZFl Tryz.underlying89 proofs.rrd (by kernel_rfl) (by decide)
theorem proofs.rbo:Z3b Tryz.prog 4 Zea := Z0q Tryz.underlying4
set_option maxRecDepth 100000 in
theorem ZFp (os:Os) (started:os.Started) (H:Type) (enc:TypeId×Value→H) :
    ReturnsInHanded {} Tryz.checked os 5 .any (Rows.rubberProofsSpec.pre6 enc Tryz.prog Tryz.f5 Rows.rubberProofsRow.domain false) (Rows.rubberProofsSpec.post enc Tryz.prog Tryz.f5 false true false false) := by
  refine returnsInHanded_of_change (C := Tryz.checked) proofs.own started (by kernel_rfl) Tryz.func5
    (ChangeSpec.witness6 (enc := enc) (C := Tryz.checked) false ⟨#[], #[.slice none 0 0, .slice none 0 0, .agg #[.int .i64 0, .int .i64 0, .slice none 0 0], .slice none 0 0, .bool false], []⟩ 8 (by kernel_rfl) (by kernel_rfl) (by kernel_rfl) (by kernel_rfl)) ?_
  intro W base args ds gs before hval0 hW hcnd _
  have hval:∀ (j:Nat) t v, Tryz.f5.params[j]? = some t→args[j]? = some v→Value.okWide Tryz.prog W .any base t v := hval0
  have hW' := hW
  obtain ⟨p, q, hA0, hV, rfl, hfz, hnd⟩ := hW
  have hA:DataW.TrodAll enc Tryz.prog W 0 (fun _ => true) true Tryz.f5.params.toList args.toList ds p := hA0
  rw [Tryz.params5] at hA hval
  obtain ⟨v0, vs0, d0, ds0, p0, q0, hargs, rfl, rfl, h0, r0⟩ := trodAll_cons hA
  obtain ⟨v1, vs1, d1, ds1, p1, q1, rfl, rfl, rfl, h1, r1⟩ := trodAll_cons r0
  obtain ⟨v2, vs2, d2, ds2, p2, q2, rfl, rfl, rfl, h2, r2⟩ := trodAll_cons r1
  obtain ⟨v3, vs3, d3, ds3, p3, q3, rfl, rfl, rfl, h3, r3⟩ := trodAll_cons r2
  obtain ⟨v4, vs4, d4, ds4, p4, q4, rfl, rfl, rfl, h4, r4⟩ := trodAll_cons r3
  obtain ⟨rfl, rfl, rfl⟩ := trodAll_nil r4
  obtain ⟨rfl, rfl⟩ := trodVars_none hV
  obtain rfl:args = #[v0, v1, v2, v3, v4] := by cases args; simp_all
  obtain ⟨f0, h0⟩ := h0
  obtain ⟨f1, h1⟩ := h1
  obtain ⟨f2, h2⟩ := h2
  obtain ⟨f3, h3⟩ := h3
  obtain ⟨f4, h4⟩ := h4
  obtain ⟨x0, k0⟩ := proofs.rlr _ _ _ _ _ _ h0
  obtain ⟨x1, k1⟩ := proofs.rlq _ _ _ _ _ _ h1
  obtain ⟨x2, k2⟩ := proofs.rrb _ _ _ _ _ _ h2
  obtain ⟨x3, k3⟩ := proofs.rml _ _ _ _ _ _ h3
  obtain ⟨x4, k4⟩ := proofs.rbo _ _ _ _ _ _ h4
  have e0 := ZJl (A := (Zz (Zi (Zi (Zd .i64) (Zd .i64)) (Zi (Zi (Zd .i64) (Zd .i64)) (Zi (Zi (Zd .i64) (Zd .i64)) (Zi (Zd .i64) (Zd .i64))))))) rfl Tryz.underlying89 (hval 0 89 v0 rfl rfl)
  have e1 := ZJl (A := (Zz (Zi (Zd .i64) (Zd .i64)))) rfl Tryz.underlying90 (hval 1 90 v1 rfl rfl)
  have e2 := val_agg (A := (Zi (Zi (Zd .i64) (Zd .i64)) (Zz (Zi (Zi (Zd .i64) (Zd .i64)) (Zi (Zd .i64) (Zd .i64)))))) rfl (.inl ⟨_, Tryz.underlying93⟩) (hval 2 93 v2 rfl rfl)
  have e3 := ZJl (A := (Zz (Zi (Zi (Zd .i64) (Zd .i64)) (Zi (Zd .i64) (Zd .i64))))) rfl Tryz.underlying91 (hval 3 91 v3 rfl rfl)
  have e4 := ZBp (A := Zea) rfl Tryz.underlying4 (hval 4 4 v4 rfl rfl)
  obtain ⟨_, _, _, ka, kb⟩ := id k2
  have hm := Zrr x0 x1 x2 x3 x4 (fun y hy => by obtain ⟨c, c1, c2, _, ha, c3, c4, _, hb, c5, c6, _, hc, hd⟩ := ZBk k0 hy; exact ⟨Zpe ha, Zpe hb, Zpe hc, Zpe hd⟩) (fun y hy => by obtain ⟨c, ha⟩ := ZBk k1 hy; exact Zpe ha) (Zpe ka) (fun m hm => by obtain ⟨c, c1, c2, _, ha, hb⟩ := ZBk kb hm; exact ⟨Zpe ha, Zpe hb⟩) (fun m hm => by obtain ⟨c, c1, c2, _, ha, hb⟩ := ZBk k3 hm; exact ⟨Zpe ha, Zpe hb⟩)
  have hw := ZJq (ZSp W) k0 k1 k2 k3 k4 hm
  rw [← e0, ← e1, ← e2, ← e3, ← e4] at hw
  refine Calls.mono hw fun e W' ⟨r, v', he, hx, _, hr⟩ => ?_
  obtain ⟨r0, rfl, hb⟩ := hr
  obtain rfl:r0 = [.bool true] := hb
  exact ⟨_, he, ZCs proofs.laidOut (by decide +kernel) Tryz.underlying4 rfl rfl rfl rfl rfl hW' hx⟩
theorem proofs_holds:Rows.RubberProofsSaid :=
  OpenClaim.holds_of_wide 5 Tryz.f5 rfl rfl rfl rfl rfl rfl rfl ⟨rfl, rfl, rfl, rfl, rfl⟩ rfl rfl rfl rfl rfl (by kernel_rfl) Tryz.func5 (by kernel_rfl)
    (of_decide_eq_true (by kernel_rfl)) (by unfold Func.isWrapper; first | (rw [if_pos (by decide +kernel)]; kernel_rfl) | (rw [if_neg (by decide +kernel)]; exact ⟨rfl, rfl⟩))
    (fun os started H enc _ => ZFp os started H enc)
end Go.Proofs.YtpjddkamahambaaGreat
