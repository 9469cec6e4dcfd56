/-
  The closed facts of the row CodecFormats.
-/
import Derived.Test.YtpbdkkoanedimaaGreatDoorRows
import Derived.SevenTiedAt
import Derived.KernelRfl
namespace Go.Proofs.YtpbdkkoanedimaaGreatDoor.codecFormatsDone
theorem cGoes : false = Rows.codecFormatsRow.goesBy Tryz.prog := by kernel_rfl
end Go.Proofs.YtpbdkkoanedimaaGreatDoor.codecFormatsDone
