/-
  How long a text may be: the law CodecLimits returns true for every two numbers.
  Conditions: the listed package-level variables hold what the program's text lays (the card ties them).
-/
import Derived.Test.YtdbglgjphfkonaaGreatDoorCards
import Derived.Test.YtdbglgjphfkonaaGreatDoorTie
import Derived.Test.YtdbglgjphfkonaaGreatDoorHLimitsB
import Derived.Test.YtdbglgjphfkonaaGreatDoorHCTd
import Derived.SevenTiedAt
import Derived.ChangeMaps5
import Derived.ChangeOld
import Derived.ShutString
import Derived.Below
import Derived.Carry
namespace Go.Proofs.YtdbglgjphfkonaaGreatDoor.codecLimitsDone
open Go.ChangeShapes Go.WideShapes Go.ChangeAt Go.RowKit AC
open Go.ChangeMaps (open_string shut_string)
set_option linter.unusedVariables false
set_option linter.unusedSimpArgs false

theorem carded : Rows.CodecLimitsCardSaid :=
  Claim7.holds_tied_plain_at .later [] [.data, .data, .data, .sentinel, .sentinel] true Rows.codecLimitsCard.stood.harness true
    over (fun _ h => by cases h) (by kernel_rfl) (fun _ h => by cases h) codecLimits_row_tie rfl ⟨rfl, rfl⟩ (by kernel_rfl) rfl
    (fun f fn hf hfn => by
      obtain rfl : f = 4 := Option.some.inj ((show Tryz.prog.funcNamed Rows.codecLimitsRow.func = some 4 by kernel_rfl).symm.trans hf) |>.symm
      obtain rfl : fn = Tryz.f4 := (Option.some.inj (Tryz.func4.symm.trans hfn)).symm
      exact ⟨by kernel_rfl, fun j t ht => by
        rw [Tryz.params4] at ht
        rcases j with _ | _ | j
        · have h3 : t = 5 := by simpa using ht.symm
          subst h3
          exact (show Tryz.prog.wantsStandIn 5 = false by kernel_rfl)
        · have h3 : t = 41 := by simpa using ht.symm
          subst h3
          exact (show Tryz.prog.wantsStandIn 41 = false by kernel_rfl)
        · simp at ht⟩)
    (by kernel_rfl)
end Go.Proofs.YtdbglgjphfkonaaGreatDoor.codecLimitsDone

namespace Go.Proofs.YtdbglgjphfkonaaGreatDoor
theorem codecLimits_holds : Rows.CodecLimitsCardSaid := codecLimitsDone.carded
#print axioms codecLimits_holds
end Go.Proofs.YtdbglgjphfkonaaGreatDoor

