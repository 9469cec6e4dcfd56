/-
  No function of the program is the one that the model treats apart.
-/
import Derived.Test.YtgheaoaicbkaoaaGreatDoorMYh
import Derived.Test.YtgheaoaicbkaoaaGreatDoorMWalkA
import Derived.KernelRfl
namespace Go.Proofs.YtgheaoaicbkaoaaGreatDoor
open Go.RowKit AC
set_option maxRecDepth 1000000
theorem nong_all : (Tryz.prog.funcs.all fun fn => !(fn.name == "runtime.NumGoroutine")) = true := by kernel_rfl
end Go.Proofs.YtgheaoaicbkaoaaGreatDoor

