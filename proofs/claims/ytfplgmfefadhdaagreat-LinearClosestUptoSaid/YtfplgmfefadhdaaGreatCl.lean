/- LinearClosest: for every input the call returns true, and each argument reads afterwards as it read before. Conditions: none (the given statement). -/
import Derived.Test.YtfplgmfefadhdaaGreatRows
import Derived.WalkKit
import Derived.ProofKit
import Derived.Test.YtfplgmfefadhdaaGreatClG
namespace Go.Proofs.YtfplgmfefadhdaaGreat
open Go.ChangeShapes Go.WideShapes Go.ChangeAt Go.RowKit Go.Eng
theorem closest.own:ownKnob Tryz.prog.godebug = none := by kernel_rfl
theorem closest.laidOut:laidOutB Tryz.prog = true := by kernel_rfl
theorem closest.rq:ZNd Tryz.prog 69 (Zra (Zf .i64) (Zf .i64)) := Zfx Tryz.underlying69 (Zbs Tryz.underlying2) (Zbs Tryz.underlying2) rfl (by kernel_rfl) rfl (by kernel_rfl) (by kernel_rfl)
theorem closest.rl:ZNd Tryz.prog 23 (Zu (Zra (Zf .i64) (Zf .i64))) := ZEm Tryz.underlying23 closest.rq (by kernel_rfl) (by decide)
theorem closest.rm:ZNd Tryz.prog 22 (Zu (Zu (Zra (Zf .i64) (Zf .i64)))) := ZEm Tryz.underlying22 closest.rl (by kernel_rfl) (by decide)
theorem closest.rlu:ZVi Tryz.prog 23 (Zu (Zra (Zf .i64) (Zf .i64))) (fun l => l.length≤1048576) := ZcA Tryz.underlying23 closest.rq (by kernel_rfl) (by decide)
theorem closest.rmu:ZVi Tryz.prog 22 (Zu (Zu (Zra (Zf .i64) (Zf .i64)))) (fun m => ∀ r, r ∈ m→r.length≤1048576) := ZsA Tryz.underlying22 closest.rlu (by kernel_rfl) (by decide)
set_option maxRecDepth 100000 in
theorem ZAy (os:Os) (started:os.Started) (H:Type) (enc:TypeId×Value→H) (F:Stop.Interp) :
    ReturnsInHanded {} Tryz.checked os 3 .any ((Rows.OpenSpec.upto Rows.linearClosestSpec).pre6 enc Tryz.prog Tryz.f3 Rows.linearClosestUptoRow.domain false) (((Rows.OpenSpec.upto Rows.linearClosestSpec).at F).post enc Tryz.prog Tryz.f3 false true false false) := by
  refine returnsInHanded_of_cond (C := Tryz.checked) (s := (Rows.OpenSpec.upto Rows.linearClosestSpec)) (k := Rows.uptoSmall) rfl closest.own started (by kernel_rfl) Tryz.func3
    (OpenSpec.witness (enc := enc) (C := Tryz.checked) (s := (Rows.OpenSpec.upto Rows.linearClosestSpec)) (k := Rows.uptoSmall) rfl false ⟨#[], #[.slice none 0 0, .slice none 0 0, .slice none 0 0, .slice none 0 0], []⟩ 8 (by kernel_rfl) (by kernel_rfl) (by kernel_rfl) (x := ([.nil, .nil, .nil, .nil], [], [])) (by kernel_rfl) rfl (by kernel_rfl)) ?_
  intro W base args ds gs before hval0 hW hcnd hz _
  have hval:∀ (j:Nat) t v, Tryz.f3.params[j]? = some t→args[j]? = some v→Value.okWide Tryz.prog W .any base t v := hval0
  have hW' := hW
  obtain ⟨p, q, hA0, hV, rfl, hfz, hnd⟩ := hW
  have hA:DataW.TrodAll enc Tryz.prog W 0 (fun _ => true) true Tryz.f3.params.toList args.toList ds p := hA0
  rw [Tryz.params3] at hA hval
  obtain ⟨v0, vs0, d0, ds0, p0, q0, hargs, rfl, rfl, h0, r0⟩ := trodAll_cons hA
  obtain ⟨v1, vs1, d1, ds1, p1, q1, rfl, rfl, rfl, h1, r1⟩ := trodAll_cons r0
  obtain ⟨v2, vs2, d2, ds2, p2, q2, rfl, rfl, rfl, h2, r2⟩ := trodAll_cons r1
  obtain ⟨v3, vs3, d3, ds3, p3, q3, rfl, rfl, rfl, h3, r3⟩ := trodAll_cons r2
  obtain ⟨rfl, rfl, rfl⟩ := trodAll_nil r3
  obtain ⟨rfl, rfl⟩ := trodVars_none hV
  obtain rfl:args = #[v0, v1, v2, v3] := by cases args; simp_all
  obtain ⟨f0, h0⟩ := h0
  obtain ⟨f1, h1⟩ := h1
  obtain ⟨f2, h2⟩ := h2
  obtain ⟨f3, h3⟩ := h3
  obtain ⟨x0, k0, w0⟩ := closest.rmu _ _ _ _ _ _ h0
  have w0 := w0 (bulk_at hz (j := 0) rfl)
  obtain ⟨x1, k1⟩ := closest.rl _ _ _ _ _ _ h1
  obtain ⟨x2, k2⟩ := closest.rl _ _ _ _ _ _ h2
  obtain ⟨x3, k3⟩ := closest.rl _ _ _ _ _ _ h3
  have e0 := ZZk (A := (Zu (Zu (Zra (Zf .i64) (Zf .i64))))) rfl Tryz.underlying22 (hval 0 22 v0 rfl rfl)
  have e1 := ZZk (A := (Zu (Zra (Zf .i64) (Zf .i64)))) rfl Tryz.underlying23 (hval 1 23 v1 rfl rfl)
  have e2 := ZZk (A := (Zu (Zra (Zf .i64) (Zf .i64)))) rfl Tryz.underlying23 (hval 2 23 v2 rfl rfl)
  have e3 := ZZk (A := (Zu (Zra (Zf .i64) (Zf .i64)))) rfl Tryz.underlying23 (hval 3 23 v3 rfl rfl)
  have hm := Zmx (fun r hr => by obtain ⟨_, h⟩ := ZJj k0 hr; exact fun x hx => by obtain ⟨c, c1, c2, _, ha, hb⟩ := ZJj h hx; exact ⟨ha.2, hb.2⟩) (fun x hx => by obtain ⟨c, c1, c2, _, ha, hb⟩ := ZJj k1 hx; exact ⟨ha.2, hb.2⟩) (fun x hx => by obtain ⟨c, c1, c2, _, ha, hb⟩ := ZJj k2 hx; exact ⟨ha.2, hb.2⟩) (fun x hx => by obtain ⟨c, c1, c2, _, ha, hb⟩ := ZJj k3 hx; exact ⟨ha.2, hb.2⟩) w0
  have hw := Z6z (Zbw W) k0 k1 k2 k3 hm
  rw [← e0, ← e1, ← e2, ← e3] at hw
  refine Calls.mono hw fun e W' ⟨r, v', he, hx, _, hr⟩ => ?_
  obtain ⟨r0, rfl, hb⟩ := hr
  obtain rfl:r0 = [.bool true] := hb
  exact ⟨_, he, ZGw closest.laidOut (by decide +kernel) Tryz.underlying4 rfl rfl rfl rfl rfl hW' hx⟩
theorem closest_holds:Rows.LinearClosestUptoSaid :=
  OpenClaim.holds_of_cond 3 Tryz.f3 rfl rfl rfl rfl rfl rfl rfl ⟨rfl, rfl, rfl, rfl, rfl⟩ rfl rfl rfl rfl rfl (by kernel_rfl) Tryz.func3 (by kernel_rfl)
    (of_decide_eq_true (by kernel_rfl)) (by unfold Func.isWrapper; first | (rw [if_pos (by decide +kernel)]; kernel_rfl) | (rw [if_neg (by decide +kernel)]; exact ⟨rfl, rfl⟩))
    (fun os started H enc _ F => ZAy os started H enc F)
end Go.Proofs.YtfplgmfefadhdaaGreat
