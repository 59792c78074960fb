/- LinearProofs: for every input the call returns true, and each argument reads afterwards as it read before. Conditions: none (the given statement). -/
import Derived.Test.YtceoncclknebbaaGreatRows
import Derived.WalkKit
import Derived.ProofKit
import Derived.Test.YtceoncclknebbaaGreatPrF
namespace Go.Proofs.YtceoncclknebbaaGreat
open Go.ChangeShapes Go.WideShapes Go.ChangeAt Go.RowKit Go.Eng
theorem proofs.own:ownKnob Tryz.prog.godebug = none := by kernel_rfl
theorem proofs.laidOut:laidOutB Tryz.prog = true := by kernel_rfl
theorem proofs.rq:Z4a Tryz.prog 25 (Zv (Zd .i64) (Zd .i64)) := ZYt Tryz.underlying25 (Zyq Tryz.underlying2) (Zyq Tryz.underlying2) rfl (by kernel_rfl) rfl (by kernel_rfl) (by kernel_rfl)
theorem proofs.rl:Z4a Tryz.prog 23 (Zm (Zv (Zd .i64) (Zd .i64))) := Zxl Tryz.underlying23 proofs.rq (by kernel_rfl) (by decide)
theorem proofs.rm:Z4a Tryz.prog 22 (Zm (Zm (Zv (Zd .i64) (Zd .i64)))) := Zxl Tryz.underlying22 proofs.rl (by kernel_rfl) (by decide)
theorem proofs.rs:Z4a Tryz.prog 77 (Zv Ztb (Zv (Zv (Zd .i64) (Zd .i64)) (Zv (Zm (Zv (Zd .i64) (Zd .i64))) (Zv (Zm (Zv (Zd .i64) (Zd .i64))) (Zm (Zv (Zd .i64) (Zd .i64))))))) := ZDv Tryz.underlying77 (Z0v Tryz.underlying4) proofs.rq proofs.rl proofs.rl proofs.rl rfl (by kernel_rfl) rfl (by kernel_rfl) rfl (by kernel_rfl) rfl (by kernel_rfl) rfl (by kernel_rfl) (by kernel_rfl)
theorem proofs.rlu:ZGh Tryz.prog 23 (Zm (Zv (Zd .i64) (Zd .i64))) (fun l => l.length≤1048576) := Z5v Tryz.underlying23 proofs.rq (by kernel_rfl) (by decide)
theorem proofs.rmu:ZGh Tryz.prog 22 (Zm (Zm (Zv (Zd .i64) (Zd .i64)))) (fun m => ∀ r, r ∈ m→r.length≤1048576) := Zyv Tryz.underlying22 proofs.rlu (by kernel_rfl) (by decide)
set_option maxRecDepth 100000 in
theorem ZXw (os:Os) (started:os.Started) (H:Type) (enc:TypeId×Value→H) (F:Stop.Interp) :
    ReturnsInHanded {} Tryz.checked os 4 .any ((Rows.OpenSpec.upto Rows.linearProofsSpec).pre6 enc Tryz.prog Tryz.f4 Rows.linearProofsUptoRow.domain false) (((Rows.OpenSpec.upto Rows.linearProofsSpec).at F).post enc Tryz.prog Tryz.f4 false true false false) := by
  refine returnsInHanded_of_cond (C := Tryz.checked) (s := (Rows.OpenSpec.upto Rows.linearProofsSpec)) (k := Rows.uptoSmall) rfl proofs.own started (by kernel_rfl) Tryz.func4
    (OpenSpec.witness (enc := enc) (C := Tryz.checked) (s := (Rows.OpenSpec.upto Rows.linearProofsSpec)) (k := Rows.uptoSmall) rfl false ⟨#[], #[.slice none 0 0, .slice none 0 0, .slice none 0 0, .agg #[.bool false, .int .i64 0, .int .i64 0, .slice none 0 0, .slice none 0 0, .slice none 0 0]], []⟩ 8 (by kernel_rfl) (by kernel_rfl) (by kernel_rfl) (x := ([.nil, .nil, .nil, .agg [.lit (.bool false), .agg [.lit (.int .i64 0), .lit (.int .i64 0)], .nil, .nil, .nil]], [], [])) (by kernel_rfl) rfl (by kernel_rfl)) ?_
  intro W base args ds gs before hval0 hW hcnd hz _
  have hval:∀ (j:Nat) t v, Tryz.f4.params[j]? = some t→args[j]? = some v→Value.okWide Tryz.prog W .any base t v := hval0
  have hW' := hW
  obtain ⟨p, q, hA0, hV, rfl, hfz, hnd⟩ := hW
  have hA:DataW.TrodAll enc Tryz.prog W 0 (fun _ => true) true Tryz.f4.params.toList args.toList ds p := hA0
  rw [Tryz.params4] at hA hval
  obtain ⟨v0, vs0, d0, ds0, p0, q0, hargs, rfl, rfl, h0, r0⟩ := trodAll_cons hA
  obtain ⟨v1, vs1, d1, ds1, p1, q1, rfl, rfl, rfl, h1, r1⟩ := trodAll_cons r0
  obtain ⟨v2, vs2, d2, ds2, p2, q2, rfl, rfl, rfl, h2, r2⟩ := trodAll_cons r1
  obtain ⟨v3, vs3, d3, ds3, p3, q3, rfl, rfl, rfl, h3, r3⟩ := trodAll_cons r2
  obtain ⟨rfl, rfl, rfl⟩ := trodAll_nil r3
  obtain ⟨rfl, rfl⟩ := trodVars_none hV
  obtain rfl:args = #[v0, v1, v2, v3] := by cases args; simp_all
  obtain ⟨f0, h0⟩ := h0
  obtain ⟨f1, h1⟩ := h1
  obtain ⟨f2, h2⟩ := h2
  obtain ⟨f3, h3⟩ := h3
  obtain ⟨x0, k0, w0⟩ := proofs.rmu _ _ _ _ _ _ h0
  have w0 := w0 (bulk_at hz (j := 0) rfl)
  obtain ⟨x1, k1⟩ := proofs.rl _ _ _ _ _ _ h1
  obtain ⟨x2, k2⟩ := proofs.rl _ _ _ _ _ _ h2
  obtain ⟨x3, k3⟩ := proofs.rs _ _ _ _ _ _ h3
  have e0 := Z4l (A := (Zm (Zm (Zv (Zd .i64) (Zd .i64))))) rfl Tryz.underlying22 (hval 0 22 v0 rfl rfl)
  have e1 := Z4l (A := (Zm (Zv (Zd .i64) (Zd .i64)))) rfl Tryz.underlying23 (hval 1 23 v1 rfl rfl)
  have e2 := Z4l (A := (Zm (Zv (Zd .i64) (Zd .i64)))) rfl Tryz.underlying23 (hval 2 23 v2 rfl rfl)
  have e3 := val_agg (A := (Zv Ztb (Zv (Zv (Zd .i64) (Zd .i64)) (Zv (Zm (Zv (Zd .i64) (Zd .i64))) (Zv (Zm (Zv (Zd .i64) (Zd .i64))) (Zm (Zv (Zd .i64) (Zd .i64)))))))) rfl (.inl ⟨_, Tryz.underlying77⟩) (hval 3 77 v3 rfl rfl)
  have hm := Z8w (fun r hr => by obtain ⟨_, h⟩ := Zzf k0 hr; exact fun x hx => by obtain ⟨c, c1, c2, _, ha, hb⟩ := Zzf h hx; exact ⟨ha.2, hb.2⟩) (fun x hx => by obtain ⟨c, c1, c2, _, ha, hb⟩ := Zzf k1 hx; exact ⟨ha.2, hb.2⟩) (fun x hx => by obtain ⟨c, c1, c2, _, ha, hb⟩ := Zzf k2 hx; exact ⟨ha.2, hb.2⟩) (by obtain ⟨_, _, _, _, _, _, _, ⟨_, _, _, qa, qb⟩, _, _, _, ux, _, _, _, uy, ud⟩ := k3; exact ⟨qa.2, qb.2⟩) (by obtain ⟨_, _, _, _, _, _, _, ⟨_, _, _, qa, qb⟩, _, _, _, ux, _, _, _, uy, ud⟩ := k3; exact (fun x hx => by obtain ⟨c, c1, c2, _, ha, hb⟩ := Zzf ux hx; exact ⟨ha.2, hb.2⟩)) (by obtain ⟨_, _, _, _, _, _, _, ⟨_, _, _, qa, qb⟩, _, _, _, ux, _, _, _, uy, ud⟩ := k3; exact (fun x hx => by obtain ⟨c, c1, c2, _, ha, hb⟩ := Zzf uy hx; exact ⟨ha.2, hb.2⟩)) (by obtain ⟨_, _, _, _, _, _, _, ⟨_, _, _, qa, qb⟩, _, _, _, ux, _, _, _, uy, ud⟩ := k3; exact (fun x hx => by obtain ⟨c, c1, c2, _, ha, hb⟩ := Zzf ud hx; exact ⟨ha.2, hb.2⟩)) w0
  have hw := Z2u (Zgx W) k0 k1 k2 k3 hm
  rw [← e0, ← e1, ← e2, ← e3] at hw
  refine Calls.mono hw fun e W' ⟨r, v', he, hx, _, hr⟩ => ?_
  obtain ⟨r0, rfl, hb⟩ := hr
  obtain rfl:r0 = [.bool true] := hb
  exact ⟨_, he, ZUu proofs.laidOut (by decide +kernel) Tryz.underlying4 rfl rfl rfl rfl rfl hW' hx⟩
theorem proofs_holds:Rows.LinearProofsUptoSaid :=
  OpenClaim.holds_of_cond 4 Tryz.f4 rfl rfl rfl rfl rfl rfl rfl ⟨rfl, rfl, rfl, rfl, rfl⟩ rfl rfl rfl rfl rfl (by kernel_rfl) Tryz.func4 (by kernel_rfl)
    (of_decide_eq_true (by kernel_rfl)) (by unfold Func.isWrapper; first | (rw [if_pos (by decide +kernel)]; kernel_rfl) | (rw [if_neg (by decide +kernel)]; exact ⟨rfl, rfl⟩))
    (fun os started H enc _ F => ZXw os started H enc F)
end Go.Proofs.YtceoncclknebbaaGreat
