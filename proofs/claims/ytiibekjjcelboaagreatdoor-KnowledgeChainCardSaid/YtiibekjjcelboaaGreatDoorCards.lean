/-
  DERIVED. GIVEN WITH THE SEED: THE CARDS: each row of YtiibekjjcelboaaGreatDoorRows.lean that lists a variable, with what it lists TIED to the program's text (the seventh form; the later family's looks); each row that meets fmt, with fmt's text TOLD by the authors' own Lean function (tested against real Go, not proved from fmt's source: count such statements apart). THE CARD IS WHAT COUNTS. Prove the row's statement (the work); the ties are given (YtiibekjjcelboaaGreatDoorTie.lean); close each card by the builder's one call (the guide's Derived/Test/ToyasCard.lean, 'card_holds'). Laid BY PROGRAM, IN A SANDBOX (cutbox-door.mjs). By AI agents, Wed Nov 11 2026. No macro, syntax, notation, axiom, sorry.
-/
import Derived.Test.YtiibekjjcelboaaGreatDoorRows
import GoSem.ClaimSeven
namespace Go.Proofs.YtiibekjjcelboaaGreatDoor
namespace Rows

/-- THE TIED CARD OF 'sealringlaw10.KnowledgeChain'. -/
def knowledgeChainCard : Claim7 := { stood := { row := knowledgeChainRow, standIns := [], harness := (true, "1a5d490daf459afd5131ee209012ed71fa847b08ba0d3dd48686a409ece296bc"), looks := false }, kinds := [], alts := [], laidByText := true, laidKinds := [.data, .pinned], laidTests := true, laidLooks := .later }
def KnowledgeChainCardSaid : Prop := Claim7.holds Tryz.pinned (.plain (OpenSpec.ofChange knowledgeChainSpec)) knowledgeChainCard

/-- THE SECOND FORM's CARD OF 'sealringlaw10.KnowledgeChain'. -/
def knowledgeChainUptoCard : Claim7 := { stood := { row := knowledgeChainUptoRow, standIns := [], harness := (true, "1a5d490daf459afd5131ee209012ed71fa847b08ba0d3dd48686a409ece296bc"), looks := false }, kinds := [], alts := [], laidByText := true, laidKinds := [.data, .pinned], laidTests := true, laidLooks := .later }
def KnowledgeChainUptoCardSaid : Prop := Claim7.holds Tryz.pinned (.plain (OpenSpec.upto knowledgeChainSpec)) knowledgeChainUptoCard
end Rows
end Go.Proofs.YtiibekjjcelboaaGreatDoor
