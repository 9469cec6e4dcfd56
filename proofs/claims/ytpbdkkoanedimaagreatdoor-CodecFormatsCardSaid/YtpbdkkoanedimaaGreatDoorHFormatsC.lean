/-
  The closed facts of the row CodecFormats.
-/
import Derived.Test.YtpbdkkoanedimaaGreatDoorRows
import Derived.JoinedOf
import Derived.KernelRfl
namespace Go.Proofs.YtpbdkkoanedimaaGreatDoor.codecFormatsDone
theorem c10 : (Rows.codecFormatsRow.inPlace == Tryz.prog.inPlace 3) = true := by kernel_rfl
theorem c11 : (Rows.codecFormatsRow.unfollowed == Tryz.prog.unfollowed 3) = true := by kernel_rfl
end Go.Proofs.YtpbdkkoanedimaaGreatDoor.codecFormatsDone
