/-
  The closed facts of the row CodecSpoilt.
-/
import Derived.Test.YtellcholbkoakaaGreatDoorRows
import Derived.JoinedOf
import Derived.KernelRfl
namespace Go.Proofs.YtellcholbkoakaaGreatDoor.codecSpoiltDone
theorem c10:(Rows.codecSpoiltRow.inPlace==Tryz.prog.inPlace 4)=true:=by kernel_rfl
theorem c11:(Rows.codecSpoiltRow.unfollowed==Tryz.prog.unfollowed 4)=true:=by kernel_rfl
end Go.Proofs.YtellcholbkoakaaGreatDoor.codecSpoiltDone
