/-
  No function of the program is the one that the model treats apart.
-/
import Derived.Test.YtnbbpmagijpmpaaGreatDoorMYh
namespace Go.Proofs.YtnbbpmagijpmpaaGreatDoor
open Go.RowKit AC
set_option maxRecDepth 1000000
theorem uCa:(Tryz.prog.funcs.all fun fn=> !(fn.name == "runtime.NumGoroutine"))=true:=by kernel_rfl
end Go.Proofs.YtnbbpmagijpmpaaGreatDoor
