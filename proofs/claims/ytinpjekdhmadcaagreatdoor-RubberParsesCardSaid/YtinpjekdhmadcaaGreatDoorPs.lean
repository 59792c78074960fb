/- RubberParses: for every input the call returns true, and each argument reads afterwards as it read before. Conditions: none (the given statement). -/
import Derived.Test.YtinpjekdhmadcaaGreatDoorRows
import Derived.Test.YtinpjekdhmadcaaGreatDoorTie
import Derived.Test.YtinpjekdhmadcaaGreatDoorCards
import Derived.SevenTiedAt
import Derived.Lay
import Derived.LaidLaws
import Derived.Handed
import Derived.MakeChecks
import Derived.WalkKit
import Derived.ProofKit
import Derived.Test.YtinpjekdhmadcaaGreatDoorPsG
namespace Go.Proofs.YtinpjekdhmadcaaGreatDoor
open Go.ChangeShapes Go.WideShapes Go.ChangeAt Go.RowKit Go.Eng
theorem parses.own:ownKnob Tryz.prog.godebug = none := by kernel_rfl
theorem parses.laidOut:laidOutB Tryz.prog = true := by kernel_rfl
theorem parses.val_str {P:Program} {W:World} {base:Nat} {t:TypeId} {v:Value} {α:Type} {A:Rep α} (hA:A.agg = false) (ht:P.underlying t = some .string) (hv:Value.okWide P W .any base t v):v = A.val v.cells.toList := by
  unfold Rep.val
  rw [hA]
  unfold Value.okWide at hv
  rw [ht] at hv
  simp only [Cell.okWide, ht] at hv
  cases v <;> first | rfl | (simp [Cell.ok, ht] at hv)
theorem parses.rs:Reads Tryz.prog 9 Z5 := Zcx Tryz.underlying9
set_option maxRecDepth 100000 in
theorem Z2x (os:Os) (started:os.Started) (H:Type) (enc:TypeId×Value→H) :
    ReturnsInHanded {} Tryz.checked os 3 .any (fun w args => (Rows.rubberParsesSpec.pre enc Tryz.prog Tryz.f3 [] false w args∧laidMetH Tryz.prog Rows.rubberParsesRow.laid w)∧sizedMet enc Tryz.prog Tryz.f3 (OpenSpec.ofChange Rows.rubberParsesSpec) false w args) (Rows.rubberParsesSpec.post enc Tryz.prog Tryz.f3 false true false false) := by
  refine returnsInHanded_of_change_and (C := Tryz.checked) (X := fun w _ => laidMetH Tryz.prog Rows.rubberParsesRow.laid w) (fun _ _ _ hh h => h.of_heap hh) parses.own started (by kernel_rfl) Tryz.func3
    (ChangeSpec.witness_shaped (enc := enc) (C := Tryz.checked) (os := os) (X := fun w _ => laidMetH Tryz.prog Rows.rubberParsesRow.laid w) false (World.laidAll Tryz.prog os Rows.rubberParsesRow.laid) #[.string ⟨#[]⟩] 8 (World.laidAll_os _ _ _)
      (World.shaped_of_ZipB (by kernel_rfl) (by kernel_rfl)) (by kernel_rfl) (by kernel_rfl) (by kernel_rfl)
      (by rw [MakeChecks.laidMetH_plain _ _ _ (by kernel_rfl)]; exact laidMet_laidAll _ (by kernel_rfl) (by kernel_rfl))) ?_
  intro W base args ds gs before hval0 hW _ _ _ _
  have hval:∀ (j:Nat) t v, Tryz.f3.params[j]? = some t→args[j]? = some v→Value.okWide Tryz.prog W .any base t v := hval0
  have hW' := hW
  obtain ⟨p, q, hA0, hV, rfl, hfz, hnd⟩ := hW
  have hA:DataW.TrodAll enc Tryz.prog W 0 (fun _ => true) true Tryz.f3.params.toList args.toList ds p := hA0
  rw [Tryz.params3] at hA hval
  obtain ⟨v0, vs0, d0, ds0, p0, q0, hargs, rfl, rfl, h0, r0⟩ := trodAll_cons hA
  obtain ⟨rfl, rfl, rfl⟩ := trodAll_nil r0
  obtain ⟨rfl, rfl⟩ := trodVars_none hV
  obtain rfl:args = #[v0] := by cases args; simp_all
  obtain ⟨f0, h0⟩ := h0
  obtain ⟨x0, k0⟩ := parses.rs _ _ _ _ _ _ h0
  have e0 := parses.val_str (A := Z5) rfl Tryz.underlying9 (hval 0 9 v0 rfl rfl)
  have hm := Znu x0
  have hw := Z5u (ZIx W) k0 hm
  rw [← e0] at hw
  refine Calls.mono hw fun e W' ⟨r, v', he, hx, _, hr⟩ => ?_
  obtain ⟨r0, rfl, hb⟩ := hr
  obtain rfl:r0 = [.bool true] := hb
  exact ⟨_, he, ZPw parses.laidOut (by decide +kernel) Tryz.underlying4 rfl rfl rfl rfl rfl hW' hx⟩
theorem Zty:Rows.RubberParsesSaid :=
  OpenClaim.holds_of_wide 3 Tryz.f3 rfl rfl rfl rfl rfl rfl rfl ⟨rfl, rfl, rfl, rfl, rfl⟩ rfl rfl rfl rfl rfl (by kernel_rfl) Tryz.func3 (by kernel_rfl)
    (of_decide_eq_true (by kernel_rfl)) (by unfold Func.isWrapper; first | (rw [if_pos (by decide +kernel)]; kernel_rfl) | (rw [if_neg (by decide +kernel)]; exact ⟨rfl, rfl⟩))
    (fun os started H enc _ => Z2x os started H enc)
theorem parsesCard_holds:Rows.RubberParsesCardSaid :=
  Claim7.holds_tied_plain_at .later [] [.data, .pinned] true (true, "64a00161b05d1737bfe1e5b8df1286a1cf865a2a01ffda012d345fbecc30dc7d") true Zty (fun _ h => by cases h) (by kernel_rfl) (fun _ h => by cases h) rubberParses_row_tie rfl ⟨rfl, rfl⟩ (by kernel_rfl) rfl
    (fun f fn hf hfn => by
      obtain rfl : f = 3 := Option.some.inj ((show Tryz.prog.funcNamed "tyreworks/tyreworkslaw04.RubberParses" = some 3 by kernel_rfl).symm.trans hf) |>.symm
      obtain rfl:fn = Tryz.f3 := (Option.some.inj (Tryz.func3.symm.trans hfn)).symm
      exact ⟨by kernel_rfl, fun j t ht => by
        rw [Tryz.params3] at ht
        have hm:t ∈ [9] := by simpa using Array.mem_of_getElem? ht
        have hall:([9].all fun u => !Tryz.prog.wantsStandIn u) = true := by kernel_rfl
        exact (show Tryz.prog.wantsStandIn t = false by simpa using List.all_eq_true.1 hall t hm)⟩)
    (by kernel_rfl)
end Go.Proofs.YtinpjekdhmadcaaGreatDoor
