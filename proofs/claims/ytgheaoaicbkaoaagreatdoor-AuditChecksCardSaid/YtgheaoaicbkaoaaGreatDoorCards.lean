/-
  DERIVED. GIVEN WITH THE SEED: THE CARDS: each row of YtgheaoaicbkaoaaGreatDoorRows.lean that lists a variable, with what it lists TIED to the program's text (the seventh form; the later family's looks); each row that meets fmt, with fmt's text TOLD by the authors' own Lean function (tested against real Go, not proved from fmt's source: count such statements apart). THE CARD IS WHAT COUNTS. Prove the row's statement (the work); the ties are given (YtgheaoaicbkaoaaGreatDoorTie.lean); close each card by the builder's one call (the guide's Derived/Test/ToyasCard.lean, 'card_holds'). Laid BY PROGRAM, IN A SANDBOX (cutbox-door.mjs). By AI agents, Wed Nov 11 2026. No macro, syntax, notation, axiom, sorry.
-/
import Derived.Test.YtgheaoaicbkaoaaGreatDoorRows
import GoSem.ClaimSeven
namespace Go.Proofs.YtgheaoaicbkaoaaGreatDoor
namespace Rows

/-- THE TIED CARD OF 'amortcostlaw41.AuditChecks'. -/
def auditChecksCard : Claim7 := { stood := { row := auditChecksRow, standIns := [], harness := (true, "23c164bc788ce15c55c358e631767f4d3253984d3a3a7a7cf1f5284faa9d0247"), looks := false }, kinds := [], alts := [], laidByText := true, laidKinds := [.data, .data, .data, .data], laidTests := true, laidLooks := .later }
def AuditChecksCardSaid : Prop := Claim7.holds Tryz.pinned (.plain (OpenSpec.ofChange auditChecksSpec)) auditChecksCard

/-- THE SECOND FORM's CARD OF 'amortcostlaw41.AuditChecks'. -/
def auditChecksUptoCard : Claim7 := { stood := { row := auditChecksUptoRow, standIns := [], harness := (true, "23c164bc788ce15c55c358e631767f4d3253984d3a3a7a7cf1f5284faa9d0247"), looks := false }, kinds := [], alts := [], laidByText := true, laidKinds := [.data, .data, .data, .data], laidTests := true, laidLooks := .later }
def AuditChecksUptoCardSaid : Prop := Claim7.holds Tryz.pinned (.plain (OpenSpec.upto auditChecksSpec)) auditChecksUptoCard
end Rows
end Go.Proofs.YtgheaoaicbkaoaaGreatDoor
