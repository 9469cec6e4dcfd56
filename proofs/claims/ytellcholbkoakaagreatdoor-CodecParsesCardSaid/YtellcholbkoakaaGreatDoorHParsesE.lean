/-
  The closed facts of the row CodecParses.
-/
import Derived.Test.YtellcholbkoakaaGreatDoorHParsesC
import Derived.Test.YtellcholbkoakaaGreatDoorHParsesD
namespace Go.Proofs.YtellcholbkoakaaGreatDoor.codecParsesDone
theorem closed:joinedFacts Tryz.prog 3 Tryz.f3 Rows.codecParsesSpec Rows.codecParsesRow=true:=by
 unfold joinedFacts;rw[c10,c11,c12,c13];kernel_rfl
end Go.Proofs.YtellcholbkoakaaGreatDoor.codecParsesDone
