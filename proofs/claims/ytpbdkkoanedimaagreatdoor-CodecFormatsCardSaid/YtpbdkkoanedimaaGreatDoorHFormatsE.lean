/-
  The closed facts of the row CodecFormats.
-/
import Derived.Test.YtpbdkkoanedimaaGreatDoorHFormatsC
import Derived.Test.YtpbdkkoanedimaaGreatDoorHFormatsD
namespace Go.Proofs.YtpbdkkoanedimaaGreatDoor.codecFormatsDone
theorem closed : joinedFacts Tryz.prog 3 Tryz.f3 Rows.codecFormatsSpec Rows.codecFormatsRow = true := by
 unfold joinedFacts
 rw [c10, c11, c12, c13]
 kernel_rfl
end Go.Proofs.YtpbdkkoanedimaaGreatDoor.codecFormatsDone
