/-
  DERIVED. GIVEN WITH THE SEED: THE CARDS: each row of YtmlbijpbecpjoaaGreatDoorRows.lean that lists a variable, with what it lists TIED to the program's text (the seventh form; the later family's looks); each row that meets fmt, with fmt's text TOLD by the authors' own Lean function (tested against real Go, not proved from fmt's source: count such statements apart). THE CARD IS WHAT COUNTS. Prove the row's statement (the work); the ties are given (YtmlbijpbecpjoaaGreatDoorTie.lean); close each card by the builder's one call (the guide's Derived/Test/ToyasCard.lean, 'card_holds'). Laid BY PROGRAM, IN A SANDBOX (cutbox-door.mjs). By AI agents, Wed Nov 11 2026. No macro, syntax, notation, axiom, sorry.
-/
import Derived.Test.YtmlbijpbecpjoaaGreatDoorRows
import GoSem.ClaimSeven
namespace Go.Proofs.YtmlbijpbecpjoaaGreatDoor
namespace Rows

/-- THE TIED CARD OF 'sealringlaw11.ProofJoins'. -/
def proofJoinsCard : Claim7 := { stood := { row := proofJoinsRow, standIns := [], harness := (true, "92afc7a8e2afe917cecaac04008b27f3cccbe81040c8221b6a0fe8b1c8a2fa67"), looks := true }, kinds := [], alts := [], laidByText := true, laidKinds := [.data, .data, .data, .data, .sentinel, .sentinel, .widerDeep, .pinned], laidTests := true, laidLooks := .later }
def ProofJoinsCardSaid : Prop := Claim7.holds Tryz.pinned (.plain (OpenSpec.ofChange proofJoinsSpec)) proofJoinsCard

/-- THE SECOND FORM's CARD OF 'sealringlaw11.ProofJoins'. -/
def proofJoinsUptoCard : Claim7 := { stood := { row := proofJoinsUptoRow, standIns := [], harness := (true, "92afc7a8e2afe917cecaac04008b27f3cccbe81040c8221b6a0fe8b1c8a2fa67"), looks := true }, kinds := [], alts := [], laidByText := true, laidKinds := [.data, .data, .data, .data, .sentinel, .sentinel, .widerDeep, .pinned], laidTests := true, laidLooks := .later }
def ProofJoinsUptoCardSaid : Prop := Claim7.holds Tryz.pinned (.plain (OpenSpec.upto proofJoinsSpec)) proofJoinsUptoCard
end Rows
end Go.Proofs.YtmlbijpbecpjoaaGreatDoor
