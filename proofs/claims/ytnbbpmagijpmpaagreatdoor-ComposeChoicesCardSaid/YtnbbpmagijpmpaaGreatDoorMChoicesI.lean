/-
  A closed fact of the row.
-/
import Derived.Test.YtnbbpmagijpmpaaGreatDoorRows
import Derived.SevenTiedAt
import Derived.KernelRfl
import Derived.Test.YtnbbpmagijpmpaaGreatDoorMBase
set_option linter.unusedVariables false
set_option linter.unusedSimpArgs false
namespace Go.Proofs.YtnbbpmagijpmpaaGreatDoor.composeChoicesDone
theorem uJf:false=Rows.composeChoicesRow.goesBy Tryz.prog:=by kernel_rfl
end Go.Proofs.YtnbbpmagijpmpaaGreatDoor.composeChoicesDone
