/-
  For every list of points, every peak and both kinds of bounds the law AuditChecks returns true and leaves its arguments as they were.
  Conditions: the listed package-level variables hold what the program's text lays (the card ties them).
-/
import Derived.Test.YtgheaoaicbkaoaaGreatDoorCards
import Derived.Test.YtgheaoaicbkaoaaGreatDoorTie
import Derived.Test.YtgheaoaicbkaoaaGreatDoorMChecksA
import Derived.Test.YtgheaoaicbkaoaaGreatDoorMChecksG
import Derived.SevenTiedAt
import Derived.ChangeMaps5
import Derived.ChangeOld
import Derived.ShutString
import Derived.Below
import Derived.Carry
namespace Go.Proofs.YtgheaoaicbkaoaaGreatDoor.auditChecksDone
open Go.ChangeShapes Go.WideShapes Go.ChangeAt Go.RowKit AC
set_option linter.unusedVariables false
set_option linter.unusedSimpArgs false

theorem over : Rows.auditChecksRow.holds Tryz.pinned (OpenSpec.ofChange Rows.auditChecksSpec) :=
  OpenClaim.holds_of_wide 3 Tryz.f3 rfl rfl rfl rfl rfl rfl rfl ⟨rfl, rfl, rfl, rfl, rfl⟩ rfl rfl rfl rfl rfl (by kernel_rfl) Tryz.func3 closed
    (of_decide_eq_true (by kernel_rfl)) (by unfold Func.isWrapper; first | (rw [if_pos (by decide +kernel)]; kernel_rfl) | (rw [if_neg (by decide +kernel)]; exact ⟨rfl, rfl⟩))
    (fun os started H enc _ => lifted os started H enc)

end Go.Proofs.YtgheaoaicbkaoaaGreatDoor.auditChecksDone

