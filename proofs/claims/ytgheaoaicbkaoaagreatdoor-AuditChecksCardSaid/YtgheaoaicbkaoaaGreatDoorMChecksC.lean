/-
  Closed facts of the row.
-/
import Derived.Test.YtgheaoaicbkaoaaGreatDoorRows
import Derived.JoinedOf
import Derived.KernelRfl
namespace Go.Proofs.YtgheaoaicbkaoaaGreatDoor.auditChecksDone
theorem c10 : (Rows.auditChecksRow.inPlace == Tryz.prog.inPlace 3) = true := by kernel_rfl
end Go.Proofs.YtgheaoaicbkaoaaGreatDoor.auditChecksDone

