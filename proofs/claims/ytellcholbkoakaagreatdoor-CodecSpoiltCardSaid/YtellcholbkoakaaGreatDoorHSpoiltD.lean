/-
  The closed facts of the row CodecSpoilt.
-/
import Derived.Test.YtellcholbkoakaaGreatDoorRows
import Derived.JoinedOf
import Derived.KernelRfl
namespace Go.Proofs.YtellcholbkoakaaGreatDoor.codecSpoiltDone
theorem c12:(Rows.codecSpoiltRow.recurses==Tryz.prog.recurses 4)=true:=by kernel_rfl
theorem c13:(Rows.codecSpoiltRow.named==Tryz.prog.varsNamed 4)=true:=by kernel_rfl
end Go.Proofs.YtellcholbkoakaaGreatDoor.codecSpoiltDone
