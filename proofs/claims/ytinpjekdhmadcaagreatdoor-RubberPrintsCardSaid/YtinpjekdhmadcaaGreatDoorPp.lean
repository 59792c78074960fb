/- RubberPrints: for every input the call returns true, and each argument reads afterwards as it read before. Conditions: none (the given statement). -/
import Derived.Test.YtinpjekdhmadcaaGreatDoorRows
import Derived.Test.YtinpjekdhmadcaaGreatDoorTie
import Derived.Test.YtinpjekdhmadcaaGreatDoorCards
import Derived.SevenTiedAt
import Derived.Lay
import Derived.LaidLaws
import Derived.Handed
import Derived.MakeChecks
import Derived.WalkKit
import Derived.ProofKit
import Derived.Test.YtinpjekdhmadcaaGreatDoorPpG
namespace Go.Proofs.YtinpjekdhmadcaaGreatDoor
open Go.ChangeShapes Go.WideShapes Go.ChangeAt Go.RowKit Go.Eng
theorem prints.own:ownKnob Tryz.prog.godebug = none := by kernel_rfl
theorem prints.laidOut:laidOutB Tryz.prog = true := by kernel_rfl
theorem prints.rq:Zqb Tryz.prog 88 (ZD (Zd .i64) (Zd .i64)) := ZQv Tryz.underlying88 (Zvm Tryz.underlying2) (Zvm Tryz.underlying2) rfl (by kernel_rfl) rfl (by kernel_rfl) (by kernel_rfl)
theorem prints.rs:Zqb Tryz.prog 9 ZE := Znw Tryz.underlying9
theorem prints.rss:Zqb Tryz.prog 64 (Zs ZE) := ZLl Tryz.underlying64 prints.rs (by kernel_rfl) (by decide)
theorem prints.rg:Zqb Tryz.prog 90 (ZD (Zd .i64) (ZD (ZD (Zd .i64) (Zd .i64)) ZE)) := ZUq Tryz.underlying90 (Zvm Tryz.underlying3) prints.rq prints.rs rfl (by kernel_rfl) rfl (by kernel_rfl) rfl (by kernel_rfl) (by kernel_rfl)
theorem prints.rgs:Zqb Tryz.prog 84 (Zs (ZD (Zd .i64) (ZD (ZD (Zd .i64) (Zd .i64)) ZE))) := ZLl Tryz.underlying84 prints.rg (by kernel_rfl) (by decide)
theorem prints.rst:Zqb Tryz.prog 86 (ZD ZE (ZD (Zs ZE) (Zs (ZD (Zd .i64) (ZD (ZD (Zd .i64) (Zd .i64)) ZE))))) := ZUq Tryz.underlying86 prints.rs prints.rss prints.rgs rfl (by kernel_rfl) rfl (by kernel_rfl) rfl (by kernel_rfl) (by kernel_rfl)
theorem prints.rl:ZXr Tryz.prog 34 (Zs (ZD ZE (ZD (Zs ZE) (Zs (ZD (Zd .i64) (ZD (ZD (Zd .i64) (Zd .i64)) ZE)))))) (fun l => l.length * 64≤reachBytes) := ZFz Tryz.underlying34 prints.rst (by kernel_rfl) (by decide) (by kernel_rfl)
set_option maxRecDepth 100000 in
theorem ZNv (os:Os) (started:os.Started) (H:Type) (enc:TypeId×Value→H) :
    ReturnsInHanded {} Tryz.checked os 4 .any (fun w args => (Rows.rubberPrintsSpec.pre enc Tryz.prog Tryz.f4 [] false w args∧laidMetH Tryz.prog Rows.rubberPrintsRow.laid w)∧sizedMet enc Tryz.prog Tryz.f4 (OpenSpec.ofChange Rows.rubberPrintsSpec) false w args) (Rows.rubberPrintsSpec.post enc Tryz.prog Tryz.f4 false true false false) := by
  refine returnsInHanded_of_change_and (C := Tryz.checked) (X := fun w _ => laidMetH Tryz.prog Rows.rubberPrintsRow.laid w) (fun _ _ _ hh h => h.of_heap hh) prints.own started (by kernel_rfl) Tryz.func4
    (ChangeSpec.witness_shaped (enc := enc) (C := Tryz.checked) (os := os) (X := fun w _ => laidMetH Tryz.prog Rows.rubberPrintsRow.laid w) false (World.laidAll Tryz.prog os Rows.rubberPrintsRow.laid) #[.slice none 0 0] 8 (World.laidAll_os _ _ _)
      (World.shaped_of_ZipB (by kernel_rfl) (by kernel_rfl)) (by kernel_rfl) (by kernel_rfl) (by kernel_rfl)
      (by rw [MakeChecks.laidMetH_plain _ _ _ (by kernel_rfl)]; exact laidMet_laidAll _ (by kernel_rfl) (by kernel_rfl))) ?_
  intro W base args ds gs before hval0 hW _ hz _ _
  have hval:∀ (j:Nat) t v, Tryz.f4.params[j]? = some t→args[j]? = some v→Value.okWide Tryz.prog W .any base t v := hval0
  have hW' := hW
  obtain ⟨p, q, hA0, hV, rfl, hfz, hnd⟩ := hW
  have hA:DataW.TrodAll enc Tryz.prog W 0 (fun _ => true) true Tryz.f4.params.toList args.toList ds p := hA0
  rw [Tryz.params4] at hA hval
  obtain ⟨v0, vs0, d0, ds0, p0, q0, hargs, rfl, rfl, h0, r0⟩ := trodAll_cons hA
  obtain ⟨rfl, rfl, rfl⟩ := trodAll_nil r0
  obtain ⟨rfl, rfl⟩ := trodVars_none hV
  obtain rfl:args = #[v0] := by cases args; simp_all
  obtain ⟨f0, h0⟩ := h0
  obtain ⟨x0, k0, w0⟩ := prints.rl _ _ _ _ _ _ h0
  have w0 := w0 (Zlw hz (j := 0) rfl rfl)
  have e0 := Z1v (A := (Zs (ZD ZE (ZD (Zs ZE) (Zs (ZD (Zd .i64) (ZD (ZD (Zd .i64) (Zd .i64)) ZE))))))) rfl Tryz.underlying34 (hval 0 34 v0 rfl rfl)
  have hm := Zww x0 (by unfold reachBytes at w0; omega) ⟨fun x hx => by obtain ⟨c, c1, c2, _, ⟨_, ha⟩, _⟩ := Z3h k0 hx; exact ha, fun x hx d hd => by obtain ⟨c, c1, c2, _, _, c3, c4, _, hs, _⟩ := Z3h k0 hx; obtain ⟨e, _, he⟩ := Z3h hs hd; exact he, fun x hx g hg => by obtain ⟨c, c1, c2, _, _, c3, c4, _, _, hs⟩ := Z3h k0 hx; obtain ⟨e, e1, e2, _, _, e3, e4, _, he, _⟩ := Z3h hs hg; exact i64_of he⟩
  have hw := Zdz (ZGv W) k0 hm
  rw [← e0] at hw
  refine Calls.mono hw fun e W' ⟨r, v', he, hx, _, hr⟩ => ?_
  obtain ⟨r0, rfl, hb⟩ := hr
  obtain rfl:r0 = [.bool true] := hb
  exact ⟨_, he, Zxz prints.laidOut (by decide +kernel) Tryz.underlying4 rfl rfl rfl rfl rfl hW' hx⟩
theorem ZSv:Rows.RubberPrintsSaid :=
  OpenClaim.holds_of_wide 4 Tryz.f4 rfl rfl rfl rfl rfl rfl rfl ⟨rfl, rfl, rfl, rfl, rfl⟩ rfl rfl rfl rfl rfl (by kernel_rfl) Tryz.func4 (by kernel_rfl)
    (of_decide_eq_true (by kernel_rfl)) (by unfold Func.isWrapper; first | (rw [if_pos (by decide +kernel)]; kernel_rfl) | (rw [if_neg (by decide +kernel)]; exact ⟨rfl, rfl⟩))
    (fun os started H enc _ => ZNv os started H enc)
theorem printsCard_holds:Rows.RubberPrintsCardSaid :=
  Claim7.holds_tied_plain_at .later [] [.data, .pinned] true (true, "64a00161b05d1737bfe1e5b8df1286a1cf865a2a01ffda012d345fbecc30dc7d") true ZSv (fun _ h => by cases h) (by kernel_rfl) (fun _ h => by cases h) rubberPrints_row_tie rfl ⟨rfl, rfl⟩ (by kernel_rfl) rfl
    (fun f fn hf hfn => by
      obtain rfl : f = 4 := Option.some.inj ((show Tryz.prog.funcNamed "tyreworks/tyreworkslaw04.RubberPrints" = some 4 by kernel_rfl).symm.trans hf) |>.symm
      obtain rfl:fn = Tryz.f4 := (Option.some.inj (Tryz.func4.symm.trans hfn)).symm
      exact ⟨by kernel_rfl, fun j t ht => by
        rw [Tryz.params4] at ht
        have hm:t ∈ [34] := by simpa using Array.mem_of_getElem? ht
        have hall:([34].all fun u => !Tryz.prog.wantsStandIn u) = true := by kernel_rfl
        exact (show Tryz.prog.wantsStandIn t = false by simpa using List.all_eq_true.1 hall t hm)⟩)
    (by kernel_rfl)
end Go.Proofs.YtinpjekdhmadcaaGreatDoor
