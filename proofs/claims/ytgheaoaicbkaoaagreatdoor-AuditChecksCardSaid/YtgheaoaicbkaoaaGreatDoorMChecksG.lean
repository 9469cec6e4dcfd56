/-
  The closed facts of the row.
-/
import Derived.Test.YtgheaoaicbkaoaaGreatDoorMChecksC
import Derived.Test.YtgheaoaicbkaoaaGreatDoorMChecksD
import Derived.Test.YtgheaoaicbkaoaaGreatDoorMChecksE
import Derived.Test.YtgheaoaicbkaoaaGreatDoorMChecksF
namespace Go.Proofs.YtgheaoaicbkaoaaGreatDoor.auditChecksDone
theorem closed : joinedFacts Tryz.prog 3 Tryz.f3 Rows.auditChecksSpec Rows.auditChecksRow = true := by
  unfold joinedFacts
  rw [c10, c11, c12, c13]
  kernel_rfl
end Go.Proofs.YtgheaoaicbkaoaaGreatDoor.auditChecksDone

