/-
  DERIVED. GIVEN WITH THE SEED: THE CARDS: each row of YthlnfdbbneaelaaGreatDoorRows.lean that lists a variable, with what it lists TIED to the program's text (the seventh form; the later family's looks); each row that meets fmt, with fmt's text TOLD by the authors' own Lean function (tested against real Go, not proved from fmt's source: count such statements apart). THE CARD IS WHAT COUNTS. Prove the row's statement (the work); the ties are given (YthlnfdbbneaelaaGreatDoorTie.lean); close each card by the builder's one call (the guide's Derived/Test/ToyasCard.lean, 'card_holds'). Laid BY PROGRAM, IN A SANDBOX (cutbox-door.mjs). By AI agents, Wed Nov 11 2026. No macro, syntax, notation, axiom, sorry.
-/
import Derived.Test.YthlnfdbbneaelaaGreatDoorRows
import GoSem.ClaimSeven
namespace Go.Proofs.YthlnfdbbneaelaaGreatDoor
namespace Rows

/-- THE TIED CARD OF 'sealringlaw10.KnowledgeClosed'. -/
def knowledgeClosedCard : Claim7 := { stood := { row := knowledgeClosedRow, standIns := [], harness := (true, "6b79c55eb0558978f772c251f9fa45e2b624c7008c4c93084cfe290992f16efe"), looks := false }, kinds := [], alts := [], laidByText := true, laidKinds := [.data, .pinned], laidTests := true, laidLooks := .later }
def KnowledgeClosedCardSaid : Prop := Claim7.holds Tryz.pinned (.plain (OpenSpec.ofChange knowledgeClosedSpec)) knowledgeClosedCard

/-- THE SECOND FORM's CARD OF 'sealringlaw10.KnowledgeClosed'. -/
def knowledgeClosedUptoCard : Claim7 := { stood := { row := knowledgeClosedUptoRow, standIns := [], harness := (true, "6b79c55eb0558978f772c251f9fa45e2b624c7008c4c93084cfe290992f16efe"), looks := false }, kinds := [], alts := [], laidByText := true, laidKinds := [.data, .pinned], laidTests := true, laidLooks := .later }
def KnowledgeClosedUptoCardSaid : Prop := Claim7.holds Tryz.pinned (.plain (OpenSpec.upto knowledgeClosedSpec)) knowledgeClosedUptoCard
end Rows
end Go.Proofs.YthlnfdbbneaelaaGreatDoor
