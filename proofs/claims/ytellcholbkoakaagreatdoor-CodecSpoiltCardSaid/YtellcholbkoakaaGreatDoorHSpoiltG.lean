/-
  The closed facts of the row CodecSpoilt.
-/
import Derived.Test.YtellcholbkoakaaGreatDoorRows
import Derived.SevenTiedAt
import Derived.KernelRfl
namespace Go.Proofs.YtellcholbkoakaaGreatDoor.codecSpoiltDone
theorem cGoes:false=Rows.codecSpoiltRow.goesBy Tryz.prog:=by kernel_rfl
end Go.Proofs.YtellcholbkoakaaGreatDoor.codecSpoiltDone
