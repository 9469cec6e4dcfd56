/-
  Every text is accepted or refused as by the reference, and the certificates have equal texts: the law CodecParses returns true for every string and leaves its argument as it was.
  Conditions: the listed package-level variables hold what the program's text lays (the card ties them).
-/
import Derived.Test.YtellcholbkoakaaGreatDoorCards
import Derived.Test.YtellcholbkoakaaGreatDoorTie
import Derived.Test.YtellcholbkoakaaGreatDoorHPa
import Derived.Test.YtellcholbkoakaaGreatDoorHParsesF
import Derived.Test.YtellcholbkoakaaGreatDoorHParsesG
import Derived.SevenTiedAt
import Derived.ChangeMaps5
import Derived.ChangeOld
import Derived.ShutString
import Derived.Below
import Derived.Carry
namespace Go.Proofs.YtellcholbkoakaaGreatDoor.codecParsesDone
open Go.ChangeShapes Go.WideShapes Go.ChangeAt Go.RowKit AC
open Go.ChangeMaps (open_string shut_string)
set_option linter.unusedVariables false
set_option linter.unusedSimpArgs false
theorem carded:Rows.CodecParsesCardSaid:=
 Claim7.holds_tied_plain_at .later [] [.data,.data,.data,.sentinel,.sentinel] true Rows.codecParsesCard.stood.harness true
  over (fun _ h=>by cases h) (by kernel_rfl) (fun _ h=>by cases h) codecParses_row_tie rfl ⟨rfl,rfl⟩ (by kernel_rfl) rfl
  (fun f fn hf hfn=>by
   obtain rfl:f=3:=Option.some.inj ((show Tryz.prog.funcNamed Rows.codecParsesRow.func=some 3 by kernel_rfl).symm.trans hf) |>.symm
   obtain rfl:fn=Tryz.f3:=(Option.some.inj (Tryz.func3.symm.trans hfn)).symm;exact⟨cLooks,fun j t ht=>by
    rw[Tryz.params3]at ht;rcases j with _|j
    ·have h3:t=9:=by simpa using ht.symm
     subst h3;exact(show Tryz.prog.wantsStandIn 9=false by kernel_rfl)
    ·simp at ht⟩)
  cGoes
end Go.Proofs.YtellcholbkoakaaGreatDoor.codecParsesDone
namespace Go.Proofs.YtellcholbkoakaaGreatDoor
theorem codecParses_holds:Rows.CodecParsesCardSaid:=codecParsesDone.carded
#print axioms codecParses_holds
end Go.Proofs.YtellcholbkoakaaGreatDoor
