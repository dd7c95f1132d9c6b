/-
  DERIVED. GIVEN WITH THE SEED: THE CARDS: each row of YtdabongfphoilaaGreatDoorRows.lean that lists a variable, with what it lists TIED to the program's text (the seventh form; the later family's looks); each row that meets fmt, with fmt's text TOLD by the authors' own Lean function (tested against real Go, not proved from fmt's source: count such statements apart). THE CARD IS WHAT COUNTS. Prove the row's statement (the work); the ties are given (YtdabongfphoilaaGreatDoorTie.lean); close each card by the builder's one call (the guide's Derived/Test/ToyasCard.lean, 'card_holds'). Laid BY PROGRAM, IN A SANDBOX (cutbox-door.mjs). By AI agents, Wed Nov 11 2026. No macro, syntax, notation, axiom, sorry.
-/
import Derived.Test.YtdabongfphoilaaGreatDoorRows
import GoSem.ClaimSeven
namespace Go.Proofs.YtdabongfphoilaaGreatDoor
namespace Rows

/-- THE TIED CARD OF 'sealringlaw54.TicketValid'. -/
def ticketValidCard : Claim7 := { stood := { row := ticketValidRow, standIns := [], harness := (true, "e60e87decc146595528f5aa96f4eaadf9a14d0452923ddb72620406aefceec4d"), looks := true }, kinds := [], alts := [], laidByText := true, laidKinds := [.data, .data, .data, .sentinel, .sentinel], laidTests := true, laidLooks := .later }
def TicketValidCardSaid : Prop := Claim7.holds Tryz.pinned (.plain (OpenSpec.ofChange ticketValidSpec)) ticketValidCard

/-- THE TIED CARD OF 'sealringlaw54.TicketIssue'. -/
def ticketIssueCard : Claim7 := { stood := { row := ticketIssueRow, standIns := [], harness := (true, "e60e87decc146595528f5aa96f4eaadf9a14d0452923ddb72620406aefceec4d"), looks := true }, kinds := [], alts := [], laidByText := true, laidKinds := [.data, .data, .data, .sentinel, .sentinel], laidTests := true, laidLooks := .later }
def TicketIssueCardSaid : Prop := Claim7.holds Tryz.pinned (.plain (OpenSpec.ofChange ticketIssueSpec)) ticketIssueCard

/-- THE TIED CARD OF 'sealringlaw54.TicketResume'. -/
def ticketResumeCard : Claim7 := { stood := { row := ticketResumeRow, standIns := [], harness := (true, "e60e87decc146595528f5aa96f4eaadf9a14d0452923ddb72620406aefceec4d"), looks := true }, kinds := [], alts := [], laidByText := true, laidKinds := [.data, .data, .data, .sentinel, .sentinel], laidTests := true, laidLooks := .later }
def TicketResumeCardSaid : Prop := Claim7.holds Tryz.pinned (.plain (OpenSpec.ofChange ticketResumeSpec)) ticketResumeCard

/-- THE TIED CARD OF 'sealringlaw54.TicketPlay'. -/
def ticketPlayCard : Claim7 := { stood := { row := ticketPlayRow, standIns := [], harness := (true, "e60e87decc146595528f5aa96f4eaadf9a14d0452923ddb72620406aefceec4d"), looks := true }, kinds := [], alts := [], laidByText := true, laidKinds := [.data, .data, .data, .sentinel, .sentinel], laidTests := true, laidLooks := .later }
def TicketPlayCardSaid : Prop := Claim7.holds Tryz.pinned (.plain (OpenSpec.ofChange ticketPlaySpec)) ticketPlayCard

/-- THE TIED CARD OF 'sealringlaw54.TicketOnce'. -/
def ticketOnceCard : Claim7 := { stood := { row := ticketOnceRow, standIns := [], harness := (true, "e60e87decc146595528f5aa96f4eaadf9a14d0452923ddb72620406aefceec4d"), looks := true }, kinds := [], alts := [], laidByText := true, laidKinds := [.data, .data, .data, .sentinel, .sentinel], laidTests := true, laidLooks := .later }
def TicketOnceCardSaid : Prop := Claim7.holds Tryz.pinned (.plain (OpenSpec.ofChange ticketOnceSpec)) ticketOnceCard

/-- THE TIED CARD OF 'sealringlaw54.TicketKept'. -/
def ticketKeptCard : Claim7 := { stood := { row := ticketKeptRow, standIns := [], harness := (true, "e60e87decc146595528f5aa96f4eaadf9a14d0452923ddb72620406aefceec4d"), looks := true }, kinds := [], alts := [], laidByText := true, laidKinds := [.data, .data, .data, .sentinel, .sentinel], laidTests := true, laidLooks := .later }
def TicketKeptCardSaid : Prop := Claim7.holds Tryz.pinned (.plain (OpenSpec.ofChange ticketKeptSpec)) ticketKeptCard

/-- THE SECOND FORM's CARD OF 'sealringlaw54.TicketValid'. -/
def ticketValidUptoCard : Claim7 := { stood := { row := ticketValidUptoRow, standIns := [], harness := (true, "e60e87decc146595528f5aa96f4eaadf9a14d0452923ddb72620406aefceec4d"), looks := true }, kinds := [], alts := [], laidByText := true, laidKinds := [.data, .data, .data, .sentinel, .sentinel], laidTests := true, laidLooks := .later }
def TicketValidUptoCardSaid : Prop := Claim7.holds Tryz.pinned (.plain (OpenSpec.upto ticketValidSpec)) ticketValidUptoCard

/-- THE SECOND FORM's CARD OF 'sealringlaw54.TicketIssue'. -/
def ticketIssueUptoCard : Claim7 := { stood := { row := ticketIssueUptoRow, standIns := [], harness := (true, "e60e87decc146595528f5aa96f4eaadf9a14d0452923ddb72620406aefceec4d"), looks := true }, kinds := [], alts := [], laidByText := true, laidKinds := [.data, .data, .data, .sentinel, .sentinel], laidTests := true, laidLooks := .later }
def TicketIssueUptoCardSaid : Prop := Claim7.holds Tryz.pinned (.plain (OpenSpec.upto ticketIssueSpec)) ticketIssueUptoCard

/-- THE SECOND FORM's CARD OF 'sealringlaw54.TicketResume'. -/
def ticketResumeUptoCard : Claim7 := { stood := { row := ticketResumeUptoRow, standIns := [], harness := (true, "e60e87decc146595528f5aa96f4eaadf9a14d0452923ddb72620406aefceec4d"), looks := true }, kinds := [], alts := [], laidByText := true, laidKinds := [.data, .data, .data, .sentinel, .sentinel], laidTests := true, laidLooks := .later }
def TicketResumeUptoCardSaid : Prop := Claim7.holds Tryz.pinned (.plain (OpenSpec.upto ticketResumeSpec)) ticketResumeUptoCard

/-- THE SECOND FORM's CARD OF 'sealringlaw54.TicketPlay'. -/
def ticketPlayUptoCard : Claim7 := { stood := { row := ticketPlayUptoRow, standIns := [], harness := (true, "e60e87decc146595528f5aa96f4eaadf9a14d0452923ddb72620406aefceec4d"), looks := true }, kinds := [], alts := [], laidByText := true, laidKinds := [.data, .data, .data, .sentinel, .sentinel], laidTests := true, laidLooks := .later }
def TicketPlayUptoCardSaid : Prop := Claim7.holds Tryz.pinned (.plain (OpenSpec.upto ticketPlaySpec)) ticketPlayUptoCard

/-- THE SECOND FORM's CARD OF 'sealringlaw54.TicketOnce'. -/
def ticketOnceUptoCard : Claim7 := { stood := { row := ticketOnceUptoRow, standIns := [], harness := (true, "e60e87decc146595528f5aa96f4eaadf9a14d0452923ddb72620406aefceec4d"), looks := true }, kinds := [], alts := [], laidByText := true, laidKinds := [.data, .data, .data, .sentinel, .sentinel], laidTests := true, laidLooks := .later }
def TicketOnceUptoCardSaid : Prop := Claim7.holds Tryz.pinned (.plain (OpenSpec.upto ticketOnceSpec)) ticketOnceUptoCard

/-- THE SECOND FORM's CARD OF 'sealringlaw54.TicketKept'. -/
def ticketKeptUptoCard : Claim7 := { stood := { row := ticketKeptUptoRow, standIns := [], harness := (true, "e60e87decc146595528f5aa96f4eaadf9a14d0452923ddb72620406aefceec4d"), looks := true }, kinds := [], alts := [], laidByText := true, laidKinds := [.data, .data, .data, .sentinel, .sentinel], laidTests := true, laidLooks := .later }
def TicketKeptUptoCardSaid : Prop := Claim7.holds Tryz.pinned (.plain (OpenSpec.upto ticketKeptSpec)) ticketKeptUptoCard
end Rows
end Go.Proofs.YtdabongfphoilaaGreatDoor
