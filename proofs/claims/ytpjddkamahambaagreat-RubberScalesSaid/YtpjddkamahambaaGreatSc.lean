/- RubberScales: for every input the call returns true, and each argument reads afterwards as it read before. Conditions: none (the given statement). -/
import Derived.Test.YtpjddkamahambaaGreatRows
import Derived.WalkKit
import Derived.ProofKit
import Derived.Test.YtpjddkamahambaaGreatScF
namespace Go.Proofs.YtpjddkamahambaaGreat
open Go.ChangeShapes Go.WideShapes Go.ChangeAt Go.RowKit Go.Eng
theorem scales.own:ownKnob Tryz.prog.godebug = none := by kernel_rfl
theorem scales.laidOut:laidOutB Tryz.prog = true := by kernel_rfl
theorem scales.rq:Z2b Tryz.prog 38 (Zg (Zd .i64) (Zd .i64)) := Z5m Tryz.underlying38 (Z7j Tryz.underlying2) (Z7j Tryz.underlying2) rfl (by kernel_rfl) rfl (by kernel_rfl) (by kernel_rfl)
theorem scales.rs:Z2b Tryz.prog 9 Zp := Zbo Tryz.underlying9
theorem scales.ri:Z2b Tryz.prog 138 (Zg Zp (Zg (Zg (Zd .i64) (Zd .i64)) (Zg (Zd .i64) (Zd .i64)))) := Z4p Tryz.underlying138 scales.rs scales.rq scales.rq rfl (by kernel_rfl) rfl (by kernel_rfl) rfl (by kernel_rfl) (by kernel_rfl)
theorem scales.rl:Z2b Tryz.prog 136 (Zu (Zg Zp (Zg (Zg (Zd .i64) (Zd .i64)) (Zg (Zd .i64) (Zd .i64))))) := ZIk Tryz.underlying136 scales.ri (by kernel_rfl) (by decide)
theorem scales.rll:Z2b Tryz.prog 22 (Zu (Zu (Zg Zp (Zg (Zg (Zd .i64) (Zd .i64)) (Zg (Zd .i64) (Zd .i64)))))) := ZIk Tryz.underlying22 scales.rl (by kernel_rfl) (by decide)
theorem scales.rc:Z2b Tryz.prog 24 (Zg Zp (Zu (Zu (Zg Zp (Zg (Zg (Zd .i64) (Zd .i64)) (Zg (Zd .i64) (Zd .i64))))))) := Z5m Tryz.underlying24 scales.rs scales.rll rfl (by kernel_rfl) rfl (by kernel_rfl) (by kernel_rfl)
theorem scales.rss:Z2b Tryz.prog 69 (Zu Zp) := ZIk Tryz.underlying69 scales.rs (by kernel_rfl) (by decide)
theorem scales.ru:Z2b Tryz.prog 128 (Zd .u16) := Z7j Tryz.underlying128
set_option maxRecDepth 100000 in
theorem Zjq (os:Os) (started:os.Started) (H:Type) (enc:TypeId×Value→H) :
    ReturnsInHanded {} Tryz.checked os 6 .any (Rows.rubberScalesSpec.pre6 enc Tryz.prog Tryz.f6 Rows.rubberScalesRow.domain false) (Rows.rubberScalesSpec.post enc Tryz.prog Tryz.f6 false true false false) := by
  refine returnsInHanded_of_change (C := Tryz.checked) scales.own started (by kernel_rfl) Tryz.func6
    (ChangeSpec.witness6 (enc := enc) (C := Tryz.checked) false ⟨#[], #[.agg #[.string { data := #[] }, .slice none 0 0], .int .u16 0, .slice none 0 0], []⟩ 8 (by kernel_rfl) (by kernel_rfl) (by kernel_rfl) (by kernel_rfl)) ?_
  intro W base args ds gs before hval0 hW hcnd _
  have hval:∀ (j:Nat) t v, Tryz.f6.params[j]? = some t→args[j]? = some v→Value.okWide Tryz.prog W .any base t v := hval0
  have hW' := hW
  obtain ⟨p, q, hA0, hV, rfl, hfz, hnd⟩ := hW
  have hA:DataW.TrodAll enc Tryz.prog W 0 (fun _ => true) true Tryz.f6.params.toList args.toList ds p := hA0
  rw [Tryz.params6] at hA hval
  obtain ⟨v0, vs0, d0, ds0, p0, q0, hargs, rfl, rfl, h0, r0⟩ := trodAll_cons hA
  obtain ⟨v1, vs1, d1, ds1, p1, q1, rfl, rfl, rfl, h1, r1⟩ := trodAll_cons r0
  obtain ⟨v2, vs2, d2, ds2, p2, q2, rfl, rfl, rfl, h2, r2⟩ := trodAll_cons r1
  obtain ⟨rfl, rfl, rfl⟩ := trodAll_nil r2
  obtain ⟨rfl, rfl⟩ := trodVars_none hV
  obtain rfl:args = #[v0, v1, v2] := by cases args; simp_all
  obtain ⟨f0, h0⟩ := h0
  obtain ⟨f1, h1⟩ := h1
  obtain ⟨f2, h2⟩ := h2
  obtain ⟨x0, k0⟩ := scales.rc _ _ _ _ _ _ h0
  obtain ⟨x1, k1⟩ := scales.ru _ _ _ _ _ _ h1
  obtain ⟨x2, k2⟩ := scales.rss _ _ _ _ _ _ h2
  have e0 := val_agg (A := (Zg Zp (Zu (Zu (Zg Zp (Zg (Zg (Zd .i64) (Zd .i64)) (Zg (Zd .i64) (Zd .i64)))))))) rfl (.inl ⟨_, Tryz.underlying24⟩) (hval 0 24 v0 rfl rfl)
  have e1 := val_int (A := (Zd .u16)) rfl Tryz.underlying128 (hval 1 128 v1 rfl rfl)
  have e2 := Z0p (A := (Zu Zp)) rfl Tryz.underlying69 (hval 2 69 v2 rfl rfl)
  obtain ⟨_, _, _, ⟨_, ka⟩, kb⟩ := id k0
  have hm := Zuq x0 x1 x2 ⟨ka, fun l hl x hx => by obtain ⟨c, kc⟩ := Z6m kb hl; obtain ⟨d, d1, d2, _, ⟨_, ha⟩, d3, d4, _, hb, hc⟩ := Z6m kc hx; exact ⟨ha, Z6k hb, Z6k hc⟩⟩ (by obtain ⟨_, k⟩ := k1; exact k)
  have hw := Z5n (ZEr W) k0 k1 k2 hm
  rw [← e0, ← e1, ← e2] at hw
  refine Calls.mono hw fun e W' ⟨r, v', he, hx, _, hr⟩ => ?_
  obtain ⟨r0, rfl, hb⟩ := hr
  obtain rfl:r0 = [.bool true] := hb
  exact ⟨_, he, ZBp scales.laidOut (by decide +kernel) Tryz.underlying4 rfl rfl rfl rfl rfl hW' hx⟩
theorem scales_holds:Rows.RubberScalesSaid :=
  OpenClaim.holds_of_wide 6 Tryz.f6 rfl rfl rfl rfl rfl rfl rfl ⟨rfl, rfl, rfl, rfl, rfl⟩ rfl rfl rfl rfl rfl (by kernel_rfl) Tryz.func6 (by kernel_rfl)
    (of_decide_eq_true (by kernel_rfl)) (by unfold Func.isWrapper; first | (rw [if_pos (by decide +kernel)]; kernel_rfl) | (rw [if_neg (by decide +kernel)]; exact ⟨rfl, rfl⟩))
    (fun os started H enc _ => Zjq os started H enc)
end Go.Proofs.YtpjddkamahambaaGreat
