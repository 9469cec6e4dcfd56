/-
  A closed fact of the row.
-/
import Derived.Test.YtnbbpmagijpmpaaGreatDoorRows
import Derived.SevenTiedAt
import Derived.KernelRfl
import Derived.Test.YtnbbpmagijpmpaaGreatDoorMBase
set_option linter.unusedVariables false
set_option linter.unusedSimpArgs false
namespace Go.Proofs.YtnbbpmagijpmpaaGreatDoor.composeChoicesDone
theorem uHo:false=Tryz.prog.looks []:=by kernel_rfl
end Go.Proofs.YtnbbpmagijpmpaaGreatDoor.composeChoicesDone
