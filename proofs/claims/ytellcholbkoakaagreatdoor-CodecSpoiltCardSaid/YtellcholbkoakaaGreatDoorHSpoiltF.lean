/-
  The closed facts of the row CodecSpoilt.
-/
import Derived.Test.YtellcholbkoakaaGreatDoorRows
import Derived.SevenTiedAt
import Derived.KernelRfl
namespace Go.Proofs.YtellcholbkoakaaGreatDoor.codecSpoiltDone
theorem cLooks:true=Tryz.prog.looks []:=by kernel_rfl
end Go.Proofs.YtellcholbkoakaaGreatDoor.codecSpoiltDone
