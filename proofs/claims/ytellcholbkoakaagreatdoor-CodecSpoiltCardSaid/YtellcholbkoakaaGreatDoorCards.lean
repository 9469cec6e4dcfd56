/-
  DERIVED. GIVEN WITH THE SEED: THE CARDS: each row of YtellcholbkoakaaGreatDoorRows.lean that lists a variable, with what it lists TIED to the program's text (the seventh form; the later family's looks); each row that meets fmt, with fmt's text TOLD by the authors' own Lean function (tested against real Go, not proved from fmt's source: count such statements apart). THE CARD IS WHAT COUNTS. Prove the row's statement (the work); the ties are given (YtellcholbkoakaaGreatDoorTie.lean); close each card by the builder's one call (the guide's Derived/Test/ToyasCard.lean, 'card_holds'). Laid BY PROGRAM, IN A SANDBOX (cutbox-door.mjs). By AI agents, Wed Nov 11 2026. No macro, syntax, notation, axiom, sorry.
-/
import Derived.Test.YtellcholbkoakaaGreatDoorRows
import GoSem.ClaimSeven
namespace Go.Proofs.YtellcholbkoakaaGreatDoor
namespace Rows

/-- THE TIED CARD OF 'amortcostlaw42.CodecParses'. -/
def codecParsesCard : Claim7 := { stood := { row := codecParsesRow, standIns := [], harness := (true, "92e09718b1a3f886d965b796a41c44e01cf2080b9d8d61674e068d48943bec46"), looks := true }, kinds := [], alts := [], laidByText := true, laidKinds := [.data, .data, .data, .sentinel, .sentinel], laidTests := true, laidLooks := .later }
def CodecParsesCardSaid : Prop := Claim7.holds Tryz.pinned (.plain (OpenSpec.ofChange codecParsesSpec)) codecParsesCard

/-- THE TIED CARD OF 'amortcostlaw42.CodecSpoilt'. -/
def codecSpoiltCard : Claim7 := { stood := { row := codecSpoiltRow, standIns := [], harness := (true, "92e09718b1a3f886d965b796a41c44e01cf2080b9d8d61674e068d48943bec46"), looks := true }, kinds := [], alts := [], laidByText := true, laidKinds := [.data, .data, .data, .sentinel, .sentinel], laidTests := true, laidLooks := .later }
def CodecSpoiltCardSaid : Prop := Claim7.holds Tryz.pinned (.plain (OpenSpec.ofChange codecSpoiltSpec)) codecSpoiltCard

/-- THE SECOND FORM's CARD OF 'amortcostlaw42.CodecParses'. -/
def codecParsesUptoCard : Claim7 := { stood := { row := codecParsesUptoRow, standIns := [], harness := (true, "92e09718b1a3f886d965b796a41c44e01cf2080b9d8d61674e068d48943bec46"), looks := true }, kinds := [], alts := [], laidByText := true, laidKinds := [.data, .data, .data, .sentinel, .sentinel], laidTests := true, laidLooks := .later }
def CodecParsesUptoCardSaid : Prop := Claim7.holds Tryz.pinned (.plain (OpenSpec.upto codecParsesSpec)) codecParsesUptoCard

/-- THE SECOND FORM's CARD OF 'amortcostlaw42.CodecSpoilt'. -/
def codecSpoiltUptoCard : Claim7 := { stood := { row := codecSpoiltUptoRow, standIns := [], harness := (true, "92e09718b1a3f886d965b796a41c44e01cf2080b9d8d61674e068d48943bec46"), looks := true }, kinds := [], alts := [], laidByText := true, laidKinds := [.data, .data, .data, .sentinel, .sentinel], laidTests := true, laidLooks := .later }
def CodecSpoiltUptoCardSaid : Prop := Claim7.holds Tryz.pinned (.plain (OpenSpec.upto codecSpoiltSpec)) codecSpoiltUptoCard
end Rows
end Go.Proofs.YtellcholbkoakaaGreatDoor
