/-
  The closed facts of the row CodecParses.
-/
import Derived.Test.YtellcholbkoakaaGreatDoorRows
import Derived.JoinedOf
import Derived.KernelRfl
namespace Go.Proofs.YtellcholbkoakaaGreatDoor.codecParsesDone
theorem c12:(Rows.codecParsesRow.recurses==Tryz.prog.recurses 3)=true:=by kernel_rfl
theorem c13:(Rows.codecParsesRow.named==Tryz.prog.varsNamed 3)=true:=by kernel_rfl
end Go.Proofs.YtellcholbkoakaaGreatDoor.codecParsesDone
