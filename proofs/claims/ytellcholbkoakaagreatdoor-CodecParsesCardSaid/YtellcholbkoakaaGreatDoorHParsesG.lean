/-
  The closed facts of the row CodecParses.
-/
import Derived.Test.YtellcholbkoakaaGreatDoorRows
import Derived.SevenTiedAt
import Derived.KernelRfl
namespace Go.Proofs.YtellcholbkoakaaGreatDoor.codecParsesDone
theorem cGoes:false=Rows.codecParsesRow.goesBy Tryz.prog:=by kernel_rfl
end Go.Proofs.YtellcholbkoakaaGreatDoor.codecParsesDone
