/-
  For every text that is accepted Format returns this text: the law CodecFaithful returns true for every string and leaves its argument as it was.
  Conditions: the listed package-level variables hold what the program's text lays (the card ties them).
-/
import Derived.Test.YtdbglgjphfkonaaGreatDoorCards
import Derived.Test.YtdbglgjphfkonaaGreatDoorTie
import Derived.Test.YtdbglgjphfkonaaGreatDoorHFaithfulB
import Derived.Test.YtdbglgjphfkonaaGreatDoorHCTc
import Derived.SevenTiedAt
import Derived.ChangeMaps5
import Derived.ChangeOld
import Derived.ShutString
import Derived.Below
import Derived.Carry
namespace Go.Proofs.YtdbglgjphfkonaaGreatDoor.codecFaithfulDone
open Go.ChangeShapes Go.WideShapes Go.ChangeAt Go.RowKit AC
open Go.ChangeMaps (open_string shut_string)
set_option linter.unusedVariables false
set_option linter.unusedSimpArgs false

theorem carded : Rows.CodecFaithfulCardSaid :=
  Claim7.holds_tied_plain_at .later [] [.data, .data, .data, .sentinel, .sentinel] true Rows.codecFaithfulCard.stood.harness true
    over (fun _ h => by cases h) (by kernel_rfl) (fun _ h => by cases h) codecFaithful_row_tie rfl ⟨rfl, rfl⟩ (by kernel_rfl) rfl
    (fun f fn hf hfn => by
      obtain rfl : f = 3 := Option.some.inj ((show Tryz.prog.funcNamed Rows.codecFaithfulRow.func = some 3 by kernel_rfl).symm.trans hf) |>.symm
      obtain rfl : fn = Tryz.f3 := (Option.some.inj (Tryz.func3.symm.trans hfn)).symm
      exact ⟨by kernel_rfl, fun j t ht => by
        rw [Tryz.params3] at ht
        rcases j with _ | j
        · have h3 : t = 9 := by simpa using ht.symm
          subst h3
          exact (show Tryz.prog.wantsStandIn 9 = false by kernel_rfl)
        · simp at ht⟩)
    (by kernel_rfl)
end Go.Proofs.YtdbglgjphfkonaaGreatDoor.codecFaithfulDone

namespace Go.Proofs.YtdbglgjphfkonaaGreatDoor
theorem codecFaithful_holds : Rows.CodecFaithfulCardSaid := codecFaithfulDone.carded
#print axioms codecFaithful_holds
end Go.Proofs.YtdbglgjphfkonaaGreatDoor

