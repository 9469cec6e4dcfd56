/-
  The closed facts of the row CodecFormats.
-/
import Derived.Test.YtpbdkkoanedimaaGreatDoorRows
import Derived.SevenTiedAt
import Derived.KernelRfl
namespace Go.Proofs.YtpbdkkoanedimaaGreatDoor.codecFormatsDone
theorem cLooks : true = Tryz.prog.looks [] := by kernel_rfl
end Go.Proofs.YtpbdkkoanedimaaGreatDoor.codecFormatsDone
