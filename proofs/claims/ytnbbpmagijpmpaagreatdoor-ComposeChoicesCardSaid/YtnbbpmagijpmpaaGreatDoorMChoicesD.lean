/-
  Closed facts of the row.
-/
import Derived.Test.YtnbbpmagijpmpaaGreatDoorRows
import Derived.JoinedOf
import Derived.KernelRfl
import Derived.Test.YtnbbpmagijpmpaaGreatDoorMBase
set_option linter.unusedVariables false
set_option linter.unusedSimpArgs false
namespace Go.Proofs.YtnbbpmagijpmpaaGreatDoor.composeChoicesDone
theorem c11:(Rows.composeChoicesRow.unfollowed==Tryz.prog.unfollowed 3)=true:=by kernel_rfl
end Go.Proofs.YtnbbpmagijpmpaaGreatDoor.composeChoicesDone
