/-
  A text that differs in one byte from that of a certificate of few parts is accepted or refused as by the reference, and the certificates have equal texts: the law CodecSpoilt returns true for every certificate, place, way and byte, and leaves its arguments as they were.
  Conditions: the listed package-level variables hold what the program's text lays (the card ties them).
-/
import Derived.Test.YtellcholbkoakaaGreatDoorCards
import Derived.Test.YtellcholbkoakaaGreatDoorTie
import Derived.Test.YtellcholbkoakaaGreatDoorHSp
import Derived.Test.YtellcholbkoakaaGreatDoorHSpoiltF
import Derived.Test.YtellcholbkoakaaGreatDoorHSpoiltG
import Derived.Test.YtellcholbkoakaaGreatDoorHOpen
import Derived.SevenTiedAt
import Derived.ChangeMaps5
import Derived.ChangeOld
import Derived.ShutString
import Derived.Below
import Derived.Carry
namespace Go.Proofs.YtellcholbkoakaaGreatDoor.codecSpoiltDone
open Go.ChangeShapes Go.WideShapes Go.ChangeAt Go.RowKit AC
open Go.ChangeMaps (open_string shut_string)
set_option linter.unusedVariables false
set_option linter.unusedSimpArgs false
theorem carded:Rows.CodecSpoiltCardSaid:=
 Claim7.holds_tied_plain_at .later [] [.data,.data,.data,.sentinel,.sentinel] true Rows.codecSpoiltCard.stood.harness true
  over (fun _ h=>by cases h) (by kernel_rfl) (fun _ h=>by cases h) codecSpoilt_row_tie rfl ⟨rfl,rfl⟩ (by kernel_rfl) rfl
  (fun f fn hf hfn=>by
   obtain rfl:f=4:=Option.some.inj ((show Tryz.prog.funcNamed Rows.codecSpoiltRow.func=some 4 by kernel_rfl).symm.trans hf) |>.symm
   obtain rfl:fn=Tryz.f4:=(Option.some.inj (Tryz.func4.symm.trans hfn)).symm;exact⟨cLooks,fun j t ht=>by
    rw[Tryz.params4]at ht;rcases j with _|_|_|_|j
    ·have h3:t=34:=by simpa using ht.symm
     subst h3;exact(show Tryz.prog.wantsStandIn 34=false by kernel_rfl)
    ·have h3:t=40:=by simpa using ht.symm
     subst h3;exact(show Tryz.prog.wantsStandIn 40=false by kernel_rfl)
    ·have h3:t=5:=by simpa using ht.symm
     subst h3;exact(show Tryz.prog.wantsStandIn 5=false by kernel_rfl)
    ·have h3:t=5:=by simpa using ht.symm
     subst h3;exact(show Tryz.prog.wantsStandIn 5=false by kernel_rfl)
    ·simp at ht⟩)
  cGoes
end Go.Proofs.YtellcholbkoakaaGreatDoor.codecSpoiltDone
namespace Go.Proofs.YtellcholbkoakaaGreatDoor
theorem codecSpoilt_holds:Rows.CodecSpoiltCardSaid:=codecSpoiltDone.carded
#print axioms codecSpoilt_holds
end Go.Proofs.YtellcholbkoakaaGreatDoor
