/-
  The closed facts of the row CodecFormats.
-/
import Derived.Test.YtpbdkkoanedimaaGreatDoorRows
import Derived.JoinedOf
import Derived.KernelRfl
namespace Go.Proofs.YtpbdkkoanedimaaGreatDoor.codecFormatsDone
theorem c12 : (Rows.codecFormatsRow.recurses == Tryz.prog.recurses 3) = true := by kernel_rfl
theorem c13 : (Rows.codecFormatsRow.named == Tryz.prog.varsNamed 3) = true := by kernel_rfl
end Go.Proofs.YtpbdkkoanedimaaGreatDoor.codecFormatsDone
