/-
  A closed fact of the row.
-/
import Derived.Test.YtgheaoaicbkaoaaGreatDoorRows
import Derived.SevenTiedAt
import Derived.KernelRfl
namespace Go.Proofs.YtgheaoaicbkaoaaGreatDoor.auditChecksDone
theorem cLooks : false = Tryz.prog.looks [] := by kernel_rfl
end Go.Proofs.YtgheaoaicbkaoaaGreatDoor.auditChecksDone

