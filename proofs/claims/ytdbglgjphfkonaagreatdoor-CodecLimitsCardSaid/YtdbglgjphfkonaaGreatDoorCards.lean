/-
  DERIVED. GIVEN WITH THE SEED: THE CARDS: each row of YtdbglgjphfkonaaGreatDoorRows.lean that lists a variable, with what it lists TIED to the program's text (the seventh form; the later family's looks); each row that meets fmt, with fmt's text TOLD by the authors' own Lean function (tested against real Go, not proved from fmt's source: count such statements apart). THE CARD IS WHAT COUNTS. Prove the row's statement (the work); the ties are given (YtdbglgjphfkonaaGreatDoorTie.lean); close each card by the builder's one call (the guide's Derived/Test/ToyasCard.lean, 'card_holds'). Laid BY PROGRAM, IN A SANDBOX (cutbox-door.mjs). By AI agents, Wed Nov 11 2026. No macro, syntax, notation, axiom, sorry.
-/
import Derived.Test.YtdbglgjphfkonaaGreatDoorRows
import GoSem.ClaimSeven
namespace Go.Proofs.YtdbglgjphfkonaaGreatDoor
namespace Rows

/-- THE TIED CARD OF 'amortcostlaw42.CodecFaithful'. -/
def codecFaithfulCard : Claim7 := { stood := { row := codecFaithfulRow, standIns := [], harness := (true, "8e109521621dcd659a4caebc57554cdbcecb46eed9c912614632c6f1a117c18b"), looks := true }, kinds := [], alts := [], laidByText := true, laidKinds := [.data, .data, .data, .sentinel, .sentinel], laidTests := true, laidLooks := .later }
def CodecFaithfulCardSaid : Prop := Claim7.holds Tryz.pinned (.plain (OpenSpec.ofChange codecFaithfulSpec)) codecFaithfulCard

/-- THE TIED CARD OF 'amortcostlaw42.CodecLimits'. -/
def codecLimitsCard : Claim7 := { stood := { row := codecLimitsRow, standIns := [], harness := (true, "8e109521621dcd659a4caebc57554cdbcecb46eed9c912614632c6f1a117c18b"), looks := true }, kinds := [], alts := [], laidByText := true, laidKinds := [.data, .data, .data, .sentinel, .sentinel], laidTests := true, laidLooks := .later }
def CodecLimitsCardSaid : Prop := Claim7.holds Tryz.pinned (.plain (OpenSpec.ofChange codecLimitsSpec)) codecLimitsCard

/-- THE SECOND FORM's CARD OF 'amortcostlaw42.CodecFaithful'. -/
def codecFaithfulUptoCard : Claim7 := { stood := { row := codecFaithfulUptoRow, standIns := [], harness := (true, "8e109521621dcd659a4caebc57554cdbcecb46eed9c912614632c6f1a117c18b"), looks := true }, kinds := [], alts := [], laidByText := true, laidKinds := [.data, .data, .data, .sentinel, .sentinel], laidTests := true, laidLooks := .later }
def CodecFaithfulUptoCardSaid : Prop := Claim7.holds Tryz.pinned (.plain (OpenSpec.upto codecFaithfulSpec)) codecFaithfulUptoCard

/-- THE SECOND FORM's CARD OF 'amortcostlaw42.CodecLimits'. -/
def codecLimitsUptoCard : Claim7 := { stood := { row := codecLimitsUptoRow, standIns := [], harness := (true, "8e109521621dcd659a4caebc57554cdbcecb46eed9c912614632c6f1a117c18b"), looks := true }, kinds := [], alts := [], laidByText := true, laidKinds := [.data, .data, .data, .sentinel, .sentinel], laidTests := true, laidLooks := .later }
def CodecLimitsUptoCardSaid : Prop := Claim7.holds Tryz.pinned (.plain (OpenSpec.upto codecLimitsSpec)) codecLimitsUptoCard
end Rows
end Go.Proofs.YtdbglgjphfkonaaGreatDoor
