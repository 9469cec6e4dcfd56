/-
  The closed facts of the row CodecParses.
-/
import Derived.Test.YtellcholbkoakaaGreatDoorRows
import Derived.JoinedOf
import Derived.KernelRfl
namespace Go.Proofs.YtellcholbkoakaaGreatDoor.codecParsesDone
theorem c10:(Rows.codecParsesRow.inPlace==Tryz.prog.inPlace 3)=true:=by kernel_rfl
theorem c11:(Rows.codecParsesRow.unfollowed==Tryz.prog.unfollowed 3)=true:=by kernel_rfl
end Go.Proofs.YtellcholbkoakaaGreatDoor.codecParsesDone
