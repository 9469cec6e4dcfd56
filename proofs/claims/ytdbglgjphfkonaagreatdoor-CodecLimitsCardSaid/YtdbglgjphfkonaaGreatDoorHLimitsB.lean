/-
  How long a text may be: the law CodecLimits returns true for every two numbers.
  Conditions: the listed package-level variables hold what the program's text lays (the card ties them).
-/
import Derived.Test.YtdbglgjphfkonaaGreatDoorCards
import Derived.Test.YtdbglgjphfkonaaGreatDoorTie
import Derived.Test.YtdbglgjphfkonaaGreatDoorHLimitsA
import Derived.Test.YtdbglgjphfkonaaGreatDoorHCTd
import Derived.SevenTiedAt
import Derived.ChangeMaps5
import Derived.ChangeOld
import Derived.ShutString
import Derived.Below
import Derived.Carry
namespace Go.Proofs.YtdbglgjphfkonaaGreatDoor.codecLimitsDone
open Go.ChangeShapes Go.WideShapes Go.ChangeAt Go.RowKit AC
open Go.ChangeMaps (open_string shut_string)
set_option linter.unusedVariables false
set_option linter.unusedSimpArgs false

theorem over : Rows.codecLimitsRow.holds Tryz.pinned (OpenSpec.ofChange Rows.codecLimitsSpec) :=
  OpenClaim.holds_of_wide 4 Tryz.f4 rfl rfl rfl rfl rfl rfl rfl ⟨rfl, rfl, rfl, rfl, rfl⟩ rfl rfl rfl rfl rfl (by kernel_rfl) Tryz.func4 (by kernel_rfl)
    (of_decide_eq_true (by kernel_rfl)) (by unfold Func.isWrapper; first | (rw [if_pos (by decide +kernel)]; kernel_rfl) | (rw [if_neg (by decide +kernel)]; exact ⟨rfl, rfl⟩))
    (fun os started H enc _ => lifted os started H enc)

end Go.Proofs.YtdbglgjphfkonaaGreatDoor.codecLimitsDone

