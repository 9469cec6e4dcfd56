/-
  DERIVED. GIVEN WITH THE SEED: THE CARDS: each row of YtpbdkkoanedimaaGreatDoorRows.lean that lists a variable, with what it lists TIED to the program's text (the seventh form; the later family's looks); each row that meets fmt, with fmt's text TOLD by the authors' own Lean function (tested against real Go, not proved from fmt's source: count such statements apart). THE CARD IS WHAT COUNTS. Prove the row's statement (the work); the ties are given (YtpbdkkoanedimaaGreatDoorTie.lean); close each card by the builder's one call (the guide's Derived/Test/ToyasCard.lean, 'card_holds'). Laid BY PROGRAM, IN A SANDBOX (cutbox-door.mjs). By AI agents, Wed Nov 11 2026. No macro, syntax, notation, axiom, sorry.
-/
import Derived.Test.YtpbdkkoanedimaaGreatDoorRows
import GoSem.ClaimSeven
namespace Go.Proofs.YtpbdkkoanedimaaGreatDoor
namespace Rows

/-- THE TIED CARD OF 'amortcostlaw42.CodecFormats'. -/
def codecFormatsCard : Claim7 := { stood := { row := codecFormatsRow, standIns := [], harness := (true, "f51be4e646480eef2f378e91806bcbbcb112549874be10150afb6753eddb74c6"), looks := true }, kinds := [], alts := [], laidByText := true, laidKinds := [.data, .data, .data, .sentinel, .sentinel], laidTests := true, laidLooks := .later }
def CodecFormatsCardSaid : Prop := Claim7.holds Tryz.pinned (.plain (OpenSpec.ofChange codecFormatsSpec)) codecFormatsCard

/-- THE TIED CARD OF 'amortcostlaw42.CodecParses'. -/
def codecParsesCard : Claim7 := { stood := { row := codecParsesRow, standIns := [], harness := (true, "f51be4e646480eef2f378e91806bcbbcb112549874be10150afb6753eddb74c6"), looks := true }, kinds := [], alts := [], laidByText := true, laidKinds := [.data, .data, .data, .sentinel, .sentinel], laidTests := true, laidLooks := .later }
def CodecParsesCardSaid : Prop := Claim7.holds Tryz.pinned (.plain (OpenSpec.ofChange codecParsesSpec)) codecParsesCard

/-- THE TIED CARD OF 'amortcostlaw42.CodecSpoilt'. -/
def codecSpoiltCard : Claim7 := { stood := { row := codecSpoiltRow, standIns := [], harness := (true, "f51be4e646480eef2f378e91806bcbbcb112549874be10150afb6753eddb74c6"), looks := true }, kinds := [], alts := [], laidByText := true, laidKinds := [.data, .data, .data, .sentinel, .sentinel], laidTests := true, laidLooks := .later }
def CodecSpoiltCardSaid : Prop := Claim7.holds Tryz.pinned (.plain (OpenSpec.ofChange codecSpoiltSpec)) codecSpoiltCard

/-- THE SECOND FORM's CARD OF 'amortcostlaw42.CodecFormats'. -/
def codecFormatsUptoCard : Claim7 := { stood := { row := codecFormatsUptoRow, standIns := [], harness := (true, "f51be4e646480eef2f378e91806bcbbcb112549874be10150afb6753eddb74c6"), looks := true }, kinds := [], alts := [], laidByText := true, laidKinds := [.data, .data, .data, .sentinel, .sentinel], laidTests := true, laidLooks := .later }
def CodecFormatsUptoCardSaid : Prop := Claim7.holds Tryz.pinned (.plain (OpenSpec.upto codecFormatsSpec)) codecFormatsUptoCard

/-- THE SECOND FORM's CARD OF 'amortcostlaw42.CodecParses'. -/
def codecParsesUptoCard : Claim7 := { stood := { row := codecParsesUptoRow, standIns := [], harness := (true, "f51be4e646480eef2f378e91806bcbbcb112549874be10150afb6753eddb74c6"), looks := true }, kinds := [], alts := [], laidByText := true, laidKinds := [.data, .data, .data, .sentinel, .sentinel], laidTests := true, laidLooks := .later }
def CodecParsesUptoCardSaid : Prop := Claim7.holds Tryz.pinned (.plain (OpenSpec.upto codecParsesSpec)) codecParsesUptoCard

/-- THE SECOND FORM's CARD OF 'amortcostlaw42.CodecSpoilt'. -/
def codecSpoiltUptoCard : Claim7 := { stood := { row := codecSpoiltUptoRow, standIns := [], harness := (true, "f51be4e646480eef2f378e91806bcbbcb112549874be10150afb6753eddb74c6"), looks := true }, kinds := [], alts := [], laidByText := true, laidKinds := [.data, .data, .data, .sentinel, .sentinel], laidTests := true, laidLooks := .later }
def CodecSpoiltUptoCardSaid : Prop := Claim7.holds Tryz.pinned (.plain (OpenSpec.upto codecSpoiltSpec)) codecSpoiltUptoCard
end Rows
end Go.Proofs.YtpbdkkoanedimaaGreatDoor
