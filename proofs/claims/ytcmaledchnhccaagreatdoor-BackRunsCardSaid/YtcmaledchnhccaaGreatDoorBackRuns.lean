/- The closed sentence BackRuns is true: the law's row, and its tied card. No condition. -/
import Derived.Test.YtcmaledchnhccaaGreatDoorC0
import Derived.Test.YtcmaledchnhccaaGreatDoorK2
import Derived.Test.YtcmaledchnhccaaGreatDoorCards
import Derived.Test.YtcmaledchnhccaaGreatDoorTie
namespace Go.Proofs.YtcmaledchnhccaaGreatDoor
open Go.ChangeShapes Go.WideShapes Go.ChangeAt Go.RowKit

set_option maxRecDepth 100000 in
theorem backRuns_lifted (os : Os) (started : os.Started) (H : Type) (enc : TypeId × Value → H) :
    ReturnsInHanded {} Tryz.checked os 3 .any (fun w args => (Rows.backRunsSpec.pre enc Tryz.prog Tryz.f3 Rows.backRunsRow.domain false w args ∧ laidMetH Tryz.prog Rows.backRunsRow.laid w) ∧ sizedMet enc Tryz.prog Tryz.f3 (OpenSpec.ofChange Rows.backRunsSpec) false w args)
      (Rows.backRunsSpec.post enc Tryz.prog Tryz.f3 false true false false) := by
  refine returnsInHanded_of_change_and (C := Tryz.checked) (X := fun w _ => laidMetH Tryz.prog Rows.backRunsRow.laid w) (fun _ _ _ hh h => h.of_heap hh) own started (by kernel_rfl) Tryz.func3
    (ChangeSpec.witness_shaped (enc := enc) (C := Tryz.checked) (os := os) (X := fun w _ => laidMetH Tryz.prog Rows.backRunsRow.laid w) false (World.laidAll Tryz.prog os Rows.backRunsRow.laid) #[] 8 (World.laidAll_os _ _ _)
      (World.shaped_of_ZipB (by kernel_rfl) (by kernel_rfl)) (by kernel_rfl) (by kernel_rfl) (by kernel_rfl)
      (by rw [MakeChecks.laidMetH_plain _ _ _ (by kernel_rfl)]; exact laidMet_laidAll _ (by kernel_rfl) (by kernel_rfl))) ?_
  intro W base args ds gs before hval0 hW hc _ hL _
  have hW' := hW
  obtain ⟨p, q, hA0, hV, rfl, _, _⟩ := hW
  have hA : DataW.TrodAll enc Tryz.prog W 0 (fun _ => true) true [] args.toList ds p := hA0
  obtain ⟨h1, rfl, rfl⟩ := trodAll_nil hA
  obtain rfl : args = #[] := by simpa using h1
  obtain ⟨rfl, rfl⟩ := trodVars_none hV
  refine (backRuns_any W).2.mono fun e W' ⟨he, hw⟩ => ?_
  subst he
  exact ⟨_, rfl, post_law laidOut (by kernel_rfl) rfl Tryz.underlying4 rfl hW' rfl hw.below⟩

theorem backRuns_holds : Rows.BackRunsSaid :=
  OpenClaim.holds_of_wide 3 Tryz.f3 rfl rfl rfl rfl rfl rfl rfl ⟨rfl, rfl, rfl, rfl, rfl⟩ rfl rfl rfl rfl rfl (by kernel_rfl) Tryz.func3 (by kernel_rfl)
    (of_decide_eq_true (by kernel_rfl)) (by unfold Func.isWrapper; first | (rw [if_pos (by decide +kernel)]; kernel_rfl) | (rw [if_neg (by decide +kernel)]; exact ⟨rfl, rfl⟩))
    (fun os started H enc _ => backRuns_lifted os started H enc)
theorem backRuns_card : Rows.BackRunsCardSaid :=
  Claim7.holds_tied_plain_at .later [] [.data, .pinned] true (true, "229364030c502eb593cd6d8eacdba4435100a030031fb77f3c8115b9d90b6581") false backRuns_holds (fun _ h => by cases h) (by kernel_rfl) (fun _ h => by cases h) backRuns_row_tie rfl ⟨rfl, rfl⟩ (by kernel_rfl) rfl
    (fun f fn hf hfn => by
      obtain rfl : f = 3 := Option.some.inj ((show Tryz.prog.funcNamed "klaxon/klaxonlaw15.BackRuns" = some 3 by kernel_rfl).symm.trans hf) |>.symm
      obtain rfl : fn = Tryz.f3 := (Option.some.inj (Tryz.func3.symm.trans hfn)).symm
      exact ⟨by kernel_rfl, fun j t ht => by
        have h0 : (Tryz.f3.params).size = 0 := rfl
        have := (Array.getElem?_eq_some_iff.1 ht).1
        omega⟩)
    (by kernel_rfl)
#print axioms backRuns_card
end Go.Proofs.YtcmaledchnhccaaGreatDoor
