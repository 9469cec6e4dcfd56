/-
  For every context, every list of bounds and both kinds the law ComposeChoices returns true and leaves its arguments as they were.
  Conditions: the listed package-level variables hold what the program's text lays (the card ties them).
-/
import Derived.Test.YtnbbpmagijpmpaaGreatDoorMChoicesB
import Derived.Test.YtnbbpmagijpmpaaGreatDoorMChoicesH
import Derived.Test.YtnbbpmagijpmpaaGreatDoorMChoicesI
set_option linter.unusedVariables false
set_option linter.unusedSimpArgs false
namespace Go.Proofs.YtnbbpmagijpmpaaGreatDoor.composeChoicesDone
open Go.ChangeShapes Go.WideShapes Go.ChangeAt Go.RowKit AC
theorem carded : Rows.ComposeChoicesCardSaid :=
  Claim7.holds_tied_plain_at .later [] [.data, .data, .data] true Rows.composeChoicesCard.stood.harness false
    over (fun _ h => by cases h) (by kernel_rfl) (fun _ h => by cases h) composeChoices_row_tie rfl ⟨rfl, rfl⟩ (by kernel_rfl) rfl
    (fun f fn hf hfn => by
      obtain rfl : f = 3 := Option.some.inj ((show Tryz.prog.funcNamed Rows.composeChoicesRow.func = some 3 by kernel_rfl).symm.trans hf) |>.symm
      obtain rfl : fn = Tryz.f3 := (Option.some.inj (Tryz.func3.symm.trans hfn)).symm
      exact ⟨uHo, fun j t ht => by
        rw [Tryz.params3] at ht
        rcases j with _ | _ | _ | j
        · have h3 : t = 27 := by simpa using ht.symm
          subst h3
          exact (show Tryz.prog.wantsStandIn 27 = false by kernel_rfl)
        · have h3 : t = 28 := by simpa using ht.symm
          subst h3
          exact (show Tryz.prog.wantsStandIn 28 = false by kernel_rfl)
        · have h3 : t = 4 := by simpa using ht.symm
          subst h3
          exact (show Tryz.prog.wantsStandIn 4 = false by kernel_rfl)
        · simp at ht⟩)
    uJf
end Go.Proofs.YtnbbpmagijpmpaaGreatDoor.composeChoicesDone
namespace Go.Proofs.YtnbbpmagijpmpaaGreatDoor
theorem composeChoices_holds : Rows.ComposeChoicesCardSaid := composeChoicesDone.carded
#print axioms composeChoices_holds
end Go.Proofs.YtnbbpmagijpmpaaGreatDoor
