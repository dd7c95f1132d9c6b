/-
  DERIVED. GIVEN WITH THE SEED: THE CARDS: each row of YthagbooipdejlaaGreatDoorRows.lean that lists a variable, with what it lists TIED to the program's text (the seventh form; the later family's looks); each row that meets fmt, with fmt's text TOLD by the authors' own Lean function (tested against real Go, not proved from fmt's source: count such statements apart). THE CARD IS WHAT COUNTS. Prove the row's statement (the work); the ties are given (YthagbooipdejlaaGreatDoorTie.lean); close each card by the builder's one call (the guide's Derived/Test/ToyasCard.lean, 'card_holds'). Laid BY PROGRAM, IN A SANDBOX (cutbox-door.mjs). By AI agents, Wed Nov 11 2026. No macro, syntax, notation, axiom, sorry.
-/
import Derived.Test.YthagbooipdejlaaGreatDoorRows
import GoSem.ClaimSeven
namespace Go.Proofs.YthagbooipdejlaaGreatDoor
namespace Rows

/-- THE TIED CARD OF 'sealringlaw11.ProofChecks'. -/
def proofChecksCard : Claim7 := { stood := { row := proofChecksRow, standIns := [], harness := (true, "2e4e621050fb2b92df3cf18e2449be34bbbc930ea928b1ca7faeb5dd410b61c0"), looks := true }, kinds := [], alts := [], laidByText := true, laidKinds := [.data, .data, .data, .data, .sentinel, .sentinel, .widerDeep, .pinned], laidTests := true, laidLooks := .later }
def ProofChecksCardSaid : Prop := Claim7.holds Tryz.pinned (.plain (OpenSpec.ofChange proofChecksSpec)) proofChecksCard

/-- THE SECOND FORM's CARD OF 'sealringlaw11.ProofChecks'. -/
def proofChecksUptoCard : Claim7 := { stood := { row := proofChecksUptoRow, standIns := [], harness := (true, "2e4e621050fb2b92df3cf18e2449be34bbbc930ea928b1ca7faeb5dd410b61c0"), looks := true }, kinds := [], alts := [], laidByText := true, laidKinds := [.data, .data, .data, .data, .sentinel, .sentinel, .widerDeep, .pinned], laidTests := true, laidLooks := .later }
def ProofChecksUptoCardSaid : Prop := Claim7.holds Tryz.pinned (.plain (OpenSpec.upto proofChecksSpec)) proofChecksUptoCard
end Rows
end Go.Proofs.YthagbooipdejlaaGreatDoor
