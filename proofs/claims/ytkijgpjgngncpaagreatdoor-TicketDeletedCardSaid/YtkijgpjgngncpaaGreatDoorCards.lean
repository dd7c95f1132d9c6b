/-
  DERIVED. GIVEN WITH THE SEED: THE CARDS: each row of YtkijgpjgngncpaaGreatDoorRows.lean that lists a variable, with what it lists TIED to the program's text (the seventh form; the later family's looks); each row that meets fmt, with fmt's text TOLD by the authors' own Lean function (tested against real Go, not proved from fmt's source: count such statements apart). THE CARD IS WHAT COUNTS. Prove the row's statement (the work); the ties are given (YtkijgpjgngncpaaGreatDoorTie.lean); close each card by the builder's one call (the guide's Derived/Test/ToyasCard.lean, 'card_holds'). Laid BY PROGRAM, IN A SANDBOX (cutbox-door.mjs). By AI agents, Wed Nov 11 2026. No macro, syntax, notation, axiom, sorry.
-/
import Derived.Test.YtkijgpjgngncpaaGreatDoorRows
import GoSem.ClaimSeven
namespace Go.Proofs.YtkijgpjgngncpaaGreatDoor
namespace Rows

/-- THE TIED CARD OF 'sealringlaw54.TicketDeleted'. -/
def ticketDeletedCard : Claim7 := { stood := { row := ticketDeletedRow, standIns := [], harness := (true, "2a01a6bc0874aa6a2c288cdc0ed65e06c47561bffe352933b407ec8117a82fc4"), looks := true }, kinds := [], alts := [], laidByText := true, laidKinds := [.data, .data, .data, .data, .sentinel, .sentinel, .pinned], laidTests := true, laidLooks := .later }
def TicketDeletedCardSaid : Prop := Claim7.holds Tryz.pinned (.plain (OpenSpec.ofChange ticketDeletedSpec)) ticketDeletedCard

/-- THE SECOND FORM's CARD OF 'sealringlaw54.TicketDeleted'. -/
def ticketDeletedUptoCard : Claim7 := { stood := { row := ticketDeletedUptoRow, standIns := [], harness := (true, "2a01a6bc0874aa6a2c288cdc0ed65e06c47561bffe352933b407ec8117a82fc4"), looks := true }, kinds := [], alts := [], laidByText := true, laidKinds := [.data, .data, .data, .data, .sentinel, .sentinel, .pinned], laidTests := true, laidLooks := .later }
def TicketDeletedUptoCardSaid : Prop := Claim7.holds Tryz.pinned (.plain (OpenSpec.upto ticketDeletedSpec)) ticketDeletedUptoCard
end Rows
end Go.Proofs.YtkijgpjgngncpaaGreatDoor
