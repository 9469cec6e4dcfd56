/-
  For every context, every list of bounds and both kinds the law ComposeChoices returns true and leaves its arguments as they were.
  Conditions: the listed package-level variables hold what the program's text lays (the card ties them).
-/
import Derived.Test.YtnbbpmagijpmpaaGreatDoorMChoicesA
import Derived.Test.YtnbbpmagijpmpaaGreatDoorMChoicesG
set_option linter.unusedVariables false
set_option linter.unusedSimpArgs false
namespace Go.Proofs.YtnbbpmagijpmpaaGreatDoor.composeChoicesDone
open Go.ChangeShapes Go.WideShapes Go.ChangeAt Go.RowKit AC
theorem over:Rows.composeChoicesRow.holds Tryz.pinned (OpenSpec.ofChange Rows.composeChoicesSpec):=
 OpenClaim.holds_of_wide 3 Tryz.f3 rfl rfl rfl rfl rfl rfl rfl ⟨rfl,rfl,rfl,rfl,rfl⟩ rfl rfl rfl rfl rfl (by kernel_rfl) Tryz.func3 closed
  (of_decide_eq_true (by kernel_rfl)) (by unfold Func.isWrapper;first|(rw[if_pos (by decide +kernel)];kernel_rfl)|(rw[if_neg (by decide +kernel)];exact⟨rfl,rfl⟩))
  (fun os a0 H enc _=>lifted os a0 H enc)
end Go.Proofs.YtnbbpmagijpmpaaGreatDoor.composeChoicesDone
