/-
  The closed facts of the row CodecSpoilt.
-/
import Derived.Test.YtellcholbkoakaaGreatDoorHSpoiltC
import Derived.Test.YtellcholbkoakaaGreatDoorHSpoiltD
namespace Go.Proofs.YtellcholbkoakaaGreatDoor.codecSpoiltDone
theorem closed:joinedFacts Tryz.prog 4 Tryz.f4 Rows.codecSpoiltSpec Rows.codecSpoiltRow=true:=by
 unfold joinedFacts;rw[c10,c11,c12,c13];kernel_rfl
end Go.Proofs.YtellcholbkoakaaGreatDoor.codecSpoiltDone
