/-
  For every list of points, every peak and both kinds of bounds the law AuditChecks returns true and leaves its arguments as they were.
  Conditions: the listed package-level variables hold what the program's text lays (the card ties them).
-/
import Derived.Test.YtgheaoaicbkaoaaGreatDoorCards
import Derived.Test.YtgheaoaicbkaoaaGreatDoorTie
import Derived.Test.YtgheaoaicbkaoaaGreatDoorMChecksB
import Derived.Test.YtgheaoaicbkaoaaGreatDoorMChecksH
import Derived.Test.YtgheaoaicbkaoaaGreatDoorMChecksI
import Derived.SevenTiedAt
import Derived.ChangeMaps5
import Derived.ChangeOld
import Derived.ShutString
import Derived.Below
import Derived.Carry
namespace Go.Proofs.YtgheaoaicbkaoaaGreatDoor.auditChecksDone
open Go.ChangeShapes Go.WideShapes Go.ChangeAt Go.RowKit AC
set_option linter.unusedVariables false
set_option linter.unusedSimpArgs false

theorem carded : Rows.AuditChecksCardSaid :=
  Claim7.holds_tied_plain_at .later [] [.data, .data, .data, .data] true Rows.auditChecksCard.stood.harness false
    over (fun _ h => by cases h) (by kernel_rfl) (fun _ h => by cases h) auditChecks_row_tie rfl ⟨rfl, rfl⟩ (by kernel_rfl) rfl
    (fun f fn hf hfn => by
      obtain rfl : f = 3 := Option.some.inj ((show Tryz.prog.funcNamed Rows.auditChecksRow.func = some 3 by kernel_rfl).symm.trans hf) |>.symm
      obtain rfl : fn = Tryz.f3 := (Option.some.inj (Tryz.func3.symm.trans hfn)).symm
      exact ⟨cLooks, fun j t ht => by
        rw [Tryz.params3] at ht
        rcases j with _ | _ | _ | j
        · have h3 : t = 22 := by simpa using ht.symm
          subst h3
          exact (show Tryz.prog.wantsStandIn 22 = false by kernel_rfl)
        · have h3 : t = 2 := by simpa using ht.symm
          subst h3
          exact (show Tryz.prog.wantsStandIn 2 = false by kernel_rfl)
        · have h3 : t = 4 := by simpa using ht.symm
          subst h3
          exact (show Tryz.prog.wantsStandIn 4 = false by kernel_rfl)
        · simp at ht⟩)
    cGoes
end Go.Proofs.YtgheaoaicbkaoaaGreatDoor.auditChecksDone

namespace Go.Proofs.YtgheaoaicbkaoaaGreatDoor
theorem auditChecks_holds : Rows.AuditChecksCardSaid := auditChecksDone.carded
#print axioms auditChecks_holds
end Go.Proofs.YtgheaoaicbkaoaaGreatDoor

