/- TopBothWays: for every input the call returns true, and each argument reads afterwards as it read before. Conditions: none (the given statement). -/
import Derived.Test.YtkfabbhcopajnaaDoorRows
import Derived.Test.YtkfabbhcopajnaaDoorTie
import Derived.Test.YtkfabbhcopajnaaDoorCards
import Derived.SevenTiedAt
import Derived.Lay
import Derived.LaidLaws
import Derived.Handed
import Derived.MakeChecks
import Derived.WalkKit
import Derived.ProofKit
import Derived.Test.YtkfabbhcopajnaaDoorBwD
namespace Go.Proofs.YtkfabbhcopajnaaDoor
open Go.ChangeShapes Go.WideShapes Go.ChangeAt Go.RowKit Go.Eng
theorem bothways.own:ownKnob Tryd.prog.godebug = none := by kernel_rfl
theorem bothways.laidOut:laidOutB Tryd.prog = true := by kernel_rfl
theorem bothways.ru8:ZVb Tryd.prog 5 (Zs .u8) := Zqj Tryd.underlying5
theorem bothways.ra4:ZVb Tryd.prog 34 (ZI (Zs .u8) (ZI (Zs .u8) (ZI (Zs .u8) (Zs .u8)))) := Ztm Tryd.underlying34 (Zqj Tryd.underlying5) (by kernel_rfl) (by kernel_rfl)
theorem bothways.rl:ZVb Tryd.prog 22 (Zo (ZI (Zs .u8) (ZI (Zs .u8) (ZI (Zs .u8) (Zs .u8))))) := Z1j Tryd.underlying22 bothways.ra4 (by kernel_rfl) (by decide)
set_option maxRecDepth 100000 in
theorem Zlk (os:Os) (started:os.Started) (H:Type) (enc:TypeId×Value→H) :
    ReturnsInHanded {} Tryd.checked os 3 .any (fun w args => (Rows.topBothWaysSpec.pre enc Tryd.prog Tryd.f3 [] false w args∧laidMetH Tryd.prog Rows.topBothWaysRow.laid w)∧sizedMet enc Tryd.prog Tryd.f3 (OpenSpec.ofChange Rows.topBothWaysSpec) false w args) (Rows.topBothWaysSpec.post enc Tryd.prog Tryd.f3 false true false false) := by
  refine returnsInHanded_of_change_and (C := Tryd.checked) (X := fun w _ => laidMetH Tryd.prog Rows.topBothWaysRow.laid w) (fun _ _ _ hh h => h.of_heap hh) bothways.own started (by kernel_rfl) Tryd.func3
    (ChangeSpec.witness_shaped (enc := enc) (C := Tryd.checked) (os := os) (X := fun w _ => laidMetH Tryd.prog Rows.topBothWaysRow.laid w) false (World.laidAll Tryd.prog os Rows.topBothWaysRow.laid) #[.slice none 0 0] 8 (World.laidAll_os _ _ _)
      (World.shaped_of_ZipB (by kernel_rfl) (by kernel_rfl)) (by kernel_rfl) (by kernel_rfl) (by kernel_rfl)
      (by rw [MakeChecks.laidMetH_plain _ _ _ (by kernel_rfl)]; exact laidMet_laidAll _ (by kernel_rfl) (by kernel_rfl))) ?_
  intro W base args ds gs before hval0 hW _ _ _ _
  have hval:∀ (j:Nat) t v, Tryd.f3.params[j]? = some t→args[j]? = some v→Value.okWide Tryd.prog W .any base t v := hval0
  have hW' := hW
  obtain ⟨p, q, hA0, hV, rfl, hfz, hnd⟩ := hW
  have hA:DataW.TrodAll enc Tryd.prog W 0 (fun _ => true) true Tryd.f3.params.toList args.toList ds p := hA0
  rw [Tryd.params3] at hA hval
  obtain ⟨v0, vs0, d0, ds0, p0, q0, hargs, rfl, rfl, h0, r0⟩ := trodAll_cons hA
  obtain ⟨rfl, rfl, rfl⟩ := trodAll_nil r0
  obtain ⟨rfl, rfl⟩ := trodVars_none hV
  obtain rfl:args = #[v0] := by cases args; simp_all
  obtain ⟨f0, h0⟩ := h0
  obtain ⟨x0, k0⟩ := bothways.rl _ _ _ _ _ _ h0
  have e0 := ZKk (A := (Zo (ZI (Zs .u8) (ZI (Zs .u8) (ZI (Zs .u8) (Zs .u8)))))) rfl Tryd.underlying22 (hval 0 22 v0 rfl rfl)
  have hm := ZIl (l := x0) (fun x hx => by obtain ⟨c, c1, c2, _, ha, c3, c4, _, hb, c5, c6, _, hc, hd⟩ := ZZl k0 hx; exact ⟨ha.2, hb.2, hc.2, hd.2⟩)
  have hw := Z2k (Zrl W) k0 hm
  rw [← e0] at hw
  refine Calls.mono hw fun e W' ⟨r, v', he, hx, _, hr⟩ => ?_
  obtain ⟨r0, rfl, hb⟩ := hr
  obtain rfl:r0 = [.bool true] := hb
  exact ⟨_, he, ZHl bothways.laidOut (by decide +kernel) Tryd.underlying4 rfl rfl rfl rfl rfl hW' hx⟩
theorem Zrk:Rows.TopBothWaysSaid :=
  OpenClaim.holds_of_wide 3 Tryd.f3 rfl rfl rfl rfl rfl rfl rfl ⟨rfl, rfl, rfl, rfl, rfl⟩ rfl rfl rfl rfl rfl (by kernel_rfl) Tryd.func3 (by kernel_rfl)
    (of_decide_eq_true (by kernel_rfl)) (by unfold Func.isWrapper; first | (rw [if_pos (by decide +kernel)]; kernel_rfl) | (rw [if_neg (by decide +kernel)]; exact ⟨rfl, rfl⟩))
    (fun os started H enc _ => Zlk os started H enc)
theorem bothwaysCard_holds:Rows.TopBothWaysCardSaid :=
  Claim7.holds_tied_plain_at .later [] [.data, .data, .data] true (true, "0eb06576d250fb803477b26997cd6ae39a5a8af7bdd43c95edb378e2cdfca30d") false Zrk (fun _ h => by cases h) (by kernel_rfl) (fun _ h => by cases h) topBothWays_row_tie rfl ⟨rfl, rfl⟩ (by kernel_rfl) rfl
    (fun f fn hf hfn => by
      obtain rfl : f = 3 := Option.some.inj ((show Tryd.prog.funcNamed "tyreworks/tyreworkstop.TopBothWays" = some 3 by kernel_rfl).symm.trans hf) |>.symm
      obtain rfl:fn = Tryd.f3 := (Option.some.inj (Tryd.func3.symm.trans hfn)).symm
      exact ⟨by kernel_rfl, fun j t ht => by
        rw [Tryd.params3] at ht
        have hm:t ∈ [22] := by simpa using Array.mem_of_getElem? ht
        have hall:([22].all fun u => !Tryd.prog.wantsStandIn u) = true := by kernel_rfl
        exact (show Tryd.prog.wantsStandIn t = false by simpa using List.all_eq_true.1 hall t hm)⟩)
    (by kernel_rfl)
end Go.Proofs.YtkfabbhcopajnaaDoor
