/-
  DERIVED. GIVEN WITH THE SEED: THE CARDS: each row of YtjkjecpalfmohaaGreatDoorRows.lean that lists a variable, with what it lists TIED to the program's text (the seventh form; the later family's looks); each row that meets fmt, with fmt's text TOLD by the authors' own Lean function (tested against real Go, not proved from fmt's source: count such statements apart). THE CARD IS WHAT COUNTS. Prove the row's statement (the work); the ties are given (YtjkjecpalfmohaaGreatDoorTie.lean); close each card by the builder's one call (the guide's Derived/Test/ToyasCard.lean, 'card_holds'). Laid BY PROGRAM, IN A SANDBOX (cutbox-door.mjs). By AI agents, Wed Nov 11 2026. No macro, syntax, notation, axiom, sorry.
-/
import Derived.Test.YtjkjecpalfmohaaGreatDoorRows
import GoSem.ClaimSeven
namespace Go.Proofs.YtjkjecpalfmohaaGreatDoor
namespace Rows

/-- THE TIED CARD OF 'sealringlaw11.ProofTrims'. -/
def proofTrimsCard : Claim7 := { stood := { row := proofTrimsRow, standIns := [], harness := (true, "50acf34004fc7711603c375703097baf8affe7123f874dc3d6efb86923a4ac8b"), looks := true }, kinds := [], alts := [], laidByText := true, laidKinds := [.data, .data, .data, .data, .sentinel, .sentinel, .widerDeep, .pinned], laidTests := true, laidLooks := .later }
def ProofTrimsCardSaid : Prop := Claim7.holds Tryz.pinned (.plain (OpenSpec.ofChange proofTrimsSpec)) proofTrimsCard

/-- THE SECOND FORM's CARD OF 'sealringlaw11.ProofTrims'. -/
def proofTrimsUptoCard : Claim7 := { stood := { row := proofTrimsUptoRow, standIns := [], harness := (true, "50acf34004fc7711603c375703097baf8affe7123f874dc3d6efb86923a4ac8b"), looks := true }, kinds := [], alts := [], laidByText := true, laidKinds := [.data, .data, .data, .data, .sentinel, .sentinel, .widerDeep, .pinned], laidTests := true, laidLooks := .later }
def ProofTrimsUptoCardSaid : Prop := Claim7.holds Tryz.pinned (.plain (OpenSpec.upto proofTrimsSpec)) proofTrimsUptoCard
end Rows
end Go.Proofs.YtjkjecpalfmohaaGreatDoor
