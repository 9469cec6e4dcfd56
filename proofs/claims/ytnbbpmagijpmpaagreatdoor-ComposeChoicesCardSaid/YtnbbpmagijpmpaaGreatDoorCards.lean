/-
  DERIVED. GIVEN WITH THE SEED: THE CARDS: each row of YtnbbpmagijpmpaaGreatDoorRows.lean that lists a variable, with what it lists TIED to the program's text (the seventh form; the later family's looks); each row that meets fmt, with fmt's text TOLD by the authors' own Lean function (tested against real Go, not proved from fmt's source: count such statements apart). THE CARD IS WHAT COUNTS. Prove the row's statement (the work); the ties are given (YtnbbpmagijpmpaaGreatDoorTie.lean); close each card by the builder's one call (the guide's Derived/Test/ToyasCard.lean, 'card_holds'). Laid BY PROGRAM, IN A SANDBOX (cutbox-door.mjs). By AI agents, Wed Nov 11 2026. No macro, syntax, notation, axiom, sorry.
-/
import Derived.Test.YtnbbpmagijpmpaaGreatDoorRows
import GoSem.ClaimSeven
namespace Go.Proofs.YtnbbpmagijpmpaaGreatDoor
namespace Rows

/-- THE TIED CARD OF 'amortcostlaw33.ComposeChoices'. -/
def composeChoicesCard : Claim7 := { stood := { row := composeChoicesRow, standIns := [], harness := (true, "aa2c37b5ff5afc67a4e55b00497889a1b84277071e423b3bbb205cf4ac0a5949"), looks := false }, kinds := [], alts := [], laidByText := true, laidKinds := [.data, .data, .data], laidTests := true, laidLooks := .later }
def ComposeChoicesCardSaid : Prop := Claim7.holds Tryz.pinned (.plain (OpenSpec.ofChange composeChoicesSpec)) composeChoicesCard

/-- THE SECOND FORM's CARD OF 'amortcostlaw33.ComposeChoices'. -/
def composeChoicesUptoCard : Claim7 := { stood := { row := composeChoicesUptoRow, standIns := [], harness := (true, "aa2c37b5ff5afc67a4e55b00497889a1b84277071e423b3bbb205cf4ac0a5949"), looks := false }, kinds := [], alts := [], laidByText := true, laidKinds := [.data, .data, .data], laidTests := true, laidLooks := .later }
def ComposeChoicesUptoCardSaid : Prop := Claim7.holds Tryz.pinned (.plain (OpenSpec.upto composeChoicesSpec)) composeChoicesUptoCard
end Rows
end Go.Proofs.YtnbbpmagijpmpaaGreatDoor
