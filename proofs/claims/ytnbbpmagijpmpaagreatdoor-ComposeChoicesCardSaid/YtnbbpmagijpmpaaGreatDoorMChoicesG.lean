/-
  The closed facts of the row.
-/
import Derived.Test.YtnbbpmagijpmpaaGreatDoorMChoicesC
import Derived.Test.YtnbbpmagijpmpaaGreatDoorMChoicesD
import Derived.Test.YtnbbpmagijpmpaaGreatDoorMChoicesE
import Derived.Test.YtnbbpmagijpmpaaGreatDoorMChoicesF
set_option linter.unusedVariables false
set_option linter.unusedSimpArgs false
namespace Go.Proofs.YtnbbpmagijpmpaaGreatDoor.composeChoicesDone
theorem closed:joinedFacts Tryz.prog 3 Tryz.f3 Rows.composeChoicesSpec Rows.composeChoicesRow=true:=by
 unfold joinedFacts;rw[c10,c11,c12,c13];kernel_rfl
end Go.Proofs.YtnbbpmagijpmpaaGreatDoor.composeChoicesDone
