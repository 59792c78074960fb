/- LinearProducts: for every input the call returns true, and each argument reads afterwards as it read before. Conditions: none (the given statement). -/
import Derived.Test.YtlobnbckbknhgaaGreatRows
import Derived.WalkKit
import Derived.ProofKit
import Derived.Test.YtlobnbckbknhgaaGreatLoG
namespace Go.Proofs.YtlobnbckbknhgaaGreat
open Go.ChangeShapes Go.WideShapes Go.ChangeAt Go.RowKit Go.Eng
theorem products.own:ownKnob Tryz.prog.godebug = none := by kernel_rfl
theorem products.laidOut:laidOutB Tryz.prog = true := by kernel_rfl
theorem products.rq:Zbd Tryz.prog 108 (Zla (Zd .i64) (Zd .i64)) := Zhy Tryz.underlying108 (ZUm Tryz.underlying2) (ZUm Tryz.underlying2) rfl (by kernel_rfl) rfl (by kernel_rfl) (by kernel_rfl)
theorem products.rl:Zbd Tryz.prog 59 (Zp (Zla (Zd .i64) (Zd .i64))) := Z1l Tryz.underlying59 products.rq (by kernel_rfl) (by decide)
theorem products.rm:Zbd Tryz.prog 58 (Zp (Zp (Zla (Zd .i64) (Zd .i64)))) := Z1l Tryz.underlying58 products.rl (by kernel_rfl) (by decide)
theorem products.ri:Zbd Tryz.prog 3 (Zd .i64) := ZUm Tryz.underlying3
theorem products.rlu:ZNh Tryz.prog 59 (Zp (Zla (Zd .i64) (Zd .i64))) (fun l => l.length≤1048576) := Zqv Tryz.underlying59 products.rq (by kernel_rfl) (by decide)
theorem products.rmu:ZNh Tryz.prog 58 (Zp (Zp (Zla (Zd .i64) (Zd .i64)))) (fun m => ∀ r, r ∈ m→r.length≤1048576) := Zgy Tryz.underlying58 products.rlu (by kernel_rfl) (by decide)
set_option maxRecDepth 100000 in
theorem Z0u (os:Os) (started:os.Started) (H:Type) (enc:TypeId×Value→H) (F:Stop.Interp) :
    ReturnsInHanded {} Tryz.checked os 4 .any ((Rows.OpenSpec.upto Rows.linearProductsSpec).pre6 enc Tryz.prog Tryz.f4 Rows.linearProductsUptoRow.domain false) (((Rows.OpenSpec.upto Rows.linearProductsSpec).at F).post enc Tryz.prog Tryz.f4 false true false false) := by
  refine returnsInHanded_of_cond (C := Tryz.checked) (s := (Rows.OpenSpec.upto Rows.linearProductsSpec)) (k := Rows.uptoSmall) rfl products.own started (by kernel_rfl) Tryz.func4
    (OpenSpec.witness (enc := enc) (C := Tryz.checked) (s := (Rows.OpenSpec.upto Rows.linearProductsSpec)) (k := Rows.uptoSmall) rfl false ⟨#[], #[.slice none 0 0, .slice none 0 0, .slice none 0 0, .slice none 0 0, .int .i64 0], []⟩ 8 (by kernel_rfl) (by kernel_rfl) (by kernel_rfl) (x := ([.nil, .nil, .nil, .nil, .lit (.int .i64 0)], [], [])) (by kernel_rfl) rfl (by kernel_rfl)) ?_
  intro W base args ds gs before hval0 hW hcnd hz _
  have hval:∀ (j:Nat) t v, Tryz.f4.params[j]? = some t→args[j]? = some v→Value.okWide Tryz.prog W .any base t v := hval0
  have hW' := hW
  obtain ⟨p, q, hA0, hV, rfl, hfz, hnd⟩ := hW
  have hA:DataW.TrodAll enc Tryz.prog W 0 (fun _ => true) true Tryz.f4.params.toList args.toList ds p := hA0
  rw [Tryz.params4] at hA hval
  obtain ⟨v0, vs0, d0, ds0, p0, q0, hargs, rfl, rfl, h0, r0⟩ := trodAll_cons hA
  obtain ⟨v1, vs1, d1, ds1, p1, q1, rfl, rfl, rfl, h1, r1⟩ := trodAll_cons r0
  obtain ⟨v2, vs2, d2, ds2, p2, q2, rfl, rfl, rfl, h2, r2⟩ := trodAll_cons r1
  obtain ⟨v3, vs3, d3, ds3, p3, q3, rfl, rfl, rfl, h3, r3⟩ := trodAll_cons r2
  obtain ⟨v4, vs4, d4, ds4, p4, q4, rfl, rfl, rfl, h4, r4⟩ := trodAll_cons r3
  obtain ⟨rfl, rfl, rfl⟩ := trodAll_nil r4
  obtain ⟨rfl, rfl⟩ := trodVars_none hV
  obtain rfl:args = #[v0, v1, v2, v3, v4] := by cases args; simp_all
  obtain ⟨f0, h0⟩ := h0
  obtain ⟨f1, h1⟩ := h1
  obtain ⟨f2, h2⟩ := h2
  obtain ⟨f3, h3⟩ := h3
  obtain ⟨f4, h4⟩ := h4
  obtain ⟨x0, k0, w0⟩ := products.rmu _ _ _ _ _ _ h0
  have w0 := w0 (Zlt hz (j := 0) rfl)
  obtain ⟨x1, k1, w1⟩ := products.rmu _ _ _ _ _ _ h1
  have w1 := w1 (Zlt hz (j := 1) rfl)
  obtain ⟨x2, k2⟩ := products.rl _ _ _ _ _ _ h2
  obtain ⟨x3, k3⟩ := products.rl _ _ _ _ _ _ h3
  obtain ⟨x4, k4⟩ := products.ri _ _ _ _ _ _ h4
  have e0 := Zhk (A := (Zp (Zp (Zla (Zd .i64) (Zd .i64))))) rfl Tryz.underlying58 (hval 0 58 v0 rfl rfl)
  have e1 := Zhk (A := (Zp (Zp (Zla (Zd .i64) (Zd .i64))))) rfl Tryz.underlying58 (hval 1 58 v1 rfl rfl)
  have e2 := Zhk (A := (Zp (Zla (Zd .i64) (Zd .i64)))) rfl Tryz.underlying59 (hval 2 59 v2 rfl rfl)
  have e3 := Zhk (A := (Zp (Zla (Zd .i64) (Zd .i64)))) rfl Tryz.underlying59 (hval 3 59 v3 rfl rfl)
  have e4 := val_int (A := (Zd .i64)) rfl Tryz.underlying3 (hval 4 3 v4 rfl rfl)
  have hm := ZIw (fun r hr => by obtain ⟨_, h⟩ := Zcg k0 hr; exact fun x hx => by obtain ⟨c, c1, c2, _, ha, hb⟩ := Zcg h hx; exact ⟨ha.2, hb.2⟩) (fun r hr => by obtain ⟨_, h⟩ := Zcg k1 hr; exact fun x hx => by obtain ⟨c, c1, c2, _, ha, hb⟩ := Zcg h hx; exact ⟨ha.2, hb.2⟩) (fun x hx => by obtain ⟨c, c1, c2, _, ha, hb⟩ := Zcg k2 hx; exact ⟨ha.2, hb.2⟩) (fun x hx => by obtain ⟨c, c1, c2, _, ha, hb⟩ := Zcg k3 hx; exact ⟨ha.2, hb.2⟩) (n := x4) w0 w1
  have hw := Zew (Zkv W) k0 k1 k2 k3 k4 hm
  rw [← e0, ← e1, ← e2, ← e3, ← e4] at hw
  refine Calls.mono hw fun e W' ⟨r, v', he, hx, _, hr⟩ => ?_
  obtain ⟨r0, rfl, hb⟩ := hr
  obtain rfl:r0 = [.bool true] := hb
  exact ⟨_, he, Z2y products.laidOut (by decide +kernel) Tryz.underlying4 rfl rfl rfl rfl rfl hW' hx⟩
theorem products_holds:Rows.LinearProductsUptoSaid :=
  OpenClaim.holds_of_cond 4 Tryz.f4 rfl rfl rfl rfl rfl rfl rfl ⟨rfl, rfl, rfl, rfl, rfl⟩ rfl rfl rfl rfl rfl (by kernel_rfl) Tryz.func4 (by kernel_rfl)
    (of_decide_eq_true (by kernel_rfl)) (by unfold Func.isWrapper; first | (rw [if_pos (by decide +kernel)]; kernel_rfl) | (rw [if_neg (by decide +kernel)]; exact ⟨rfl, rfl⟩))
    (fun os started H enc _ F => Z0u os started H enc F)
end Go.Proofs.YtlobnbckbknhgaaGreat
