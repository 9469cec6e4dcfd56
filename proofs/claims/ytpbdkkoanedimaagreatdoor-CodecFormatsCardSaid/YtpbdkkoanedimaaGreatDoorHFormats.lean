/-
  The text of every certificate of few parts is the one that the reference writes, or both say that it is too long: the law CodecFormats returns true for every certificate and leaves its argument as it was.
  Conditions: the listed package-level variables hold what the program's text lays (the card ties them).
-/
import Derived.Test.YtpbdkkoanedimaaGreatDoorCards
import Derived.Test.YtpbdkkoanedimaaGreatDoorTie
import Derived.Test.YtpbdkkoanedimaaGreatDoorHFm
import Derived.Test.YtpbdkkoanedimaaGreatDoorHFormatsF
import Derived.Test.YtpbdkkoanedimaaGreatDoorHFormatsG
import Derived.Test.YtpbdkkoanedimaaGreatDoorHOpen
import Derived.SevenTiedAt
import Derived.ChangeMaps5
import Derived.ChangeOld
import Derived.ShutString
import Derived.Below
import Derived.Carry
namespace Go.Proofs.YtpbdkkoanedimaaGreatDoor.codecFormatsDone
open Go.ChangeShapes Go.WideShapes Go.ChangeAt Go.RowKit AC
open Go.ChangeMaps (open_string shut_string)
set_option linter.unusedVariables false
set_option linter.unusedSimpArgs false
theorem carded : Rows.CodecFormatsCardSaid :=
 Claim7.holds_tied_plain_at .later [] [.data, .data, .data, .sentinel, .sentinel] true Rows.codecFormatsCard.stood.harness true
  over (fun _ h => by cases h) (by kernel_rfl) (fun _ h => by cases h) codecFormats_row_tie rfl ⟨rfl, rfl⟩ (by kernel_rfl) rfl
  (fun f fn hf hfn => by
   obtain rfl : f = 3 := Option.some.inj ((show Tryz.prog.funcNamed Rows.codecFormatsRow.func = some 3 by kernel_rfl).symm.trans hf) |>.symm
   obtain rfl : fn = Tryz.f3 := (Option.some.inj (Tryz.func3.symm.trans hfn)).symm
   exact ⟨cLooks, fun j t ht => by
    rw [Tryz.params3] at ht
    rcases j with _ | j
    ·have h3 : t = 33 := by simpa using ht.symm
     subst h3
     exact (show Tryz.prog.wantsStandIn 33 = false by kernel_rfl)
    ·simp at ht⟩)
  cGoes
end Go.Proofs.YtpbdkkoanedimaaGreatDoor.codecFormatsDone
namespace Go.Proofs.YtpbdkkoanedimaaGreatDoor
theorem codecFormats_holds : Rows.CodecFormatsCardSaid := codecFormatsDone.carded
#print axioms codecFormats_holds
end Go.Proofs.YtpbdkkoanedimaaGreatDoor
