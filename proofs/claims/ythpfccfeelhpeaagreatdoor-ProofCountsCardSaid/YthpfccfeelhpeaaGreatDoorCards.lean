/-
  DERIVED. GIVEN WITH THE SEED: THE CARDS: each row of YthpfccfeelhpeaaGreatDoorRows.lean that lists a variable, with what it lists TIED to the program's text (the seventh form; the later family's looks); each row that meets fmt, with fmt's text TOLD by the authors' own Lean function (tested against real Go, not proved from fmt's source: count such statements apart). THE CARD IS WHAT COUNTS. Prove the row's statement (the work); the ties are given (YthpfccfeelhpeaaGreatDoorTie.lean); close each card by the builder's one call (the guide's Derived/Test/ToyasCard.lean, 'card_holds'). Laid BY PROGRAM, IN A SANDBOX (cutbox-door.mjs). By AI agents, Wed Nov 11 2026. No macro, syntax, notation, axiom, sorry.
-/
import Derived.Test.YthpfccfeelhpeaaGreatDoorRows
import GoSem.ClaimSeven
namespace Go.Proofs.YthpfccfeelhpeaaGreatDoor
namespace Rows

/-- THE TIED CARD OF 'sealringlaw11.ProofCounts'. -/
def proofCountsCard : Claim7 := { stood := { row := proofCountsRow, standIns := [], harness := (true, "970cfd4b6396ce30bb11f57493e22e046e77e25109d7e93243dae47802eb29d8"), looks := true }, kinds := [], alts := [], laidByText := true, laidKinds := [.data, .data, .data, .data, .sentinel, .sentinel, .widerDeep, .pinned], laidTests := true, laidLooks := .later }
def ProofCountsCardSaid : Prop := Claim7.holds Tryz.pinned (.plain (OpenSpec.ofChange proofCountsSpec)) proofCountsCard

/-- THE TIED CARD OF 'sealringlaw11.ProofFormats'. -/
def proofFormatsCard : Claim7 := { stood := { row := proofFormatsRow, standIns := [], harness := (true, "970cfd4b6396ce30bb11f57493e22e046e77e25109d7e93243dae47802eb29d8"), looks := true }, kinds := [], alts := [], laidByText := true, laidKinds := [.data, .data, .data, .data, .sentinel, .sentinel, .widerDeep, .pinned], laidTests := true, laidLooks := .later }
def ProofFormatsCardSaid : Prop := Claim7.holds Tryz.pinned (.plain (OpenSpec.ofChange proofFormatsSpec)) proofFormatsCard

/-- THE TIED CARD OF 'sealringlaw11.ProofParses'. -/
def proofParsesCard : Claim7 := { stood := { row := proofParsesRow, standIns := [], harness := (true, "970cfd4b6396ce30bb11f57493e22e046e77e25109d7e93243dae47802eb29d8"), looks := true }, kinds := [], alts := [], laidByText := true, laidKinds := [.data, .data, .data, .data, .sentinel, .sentinel, .widerDeep, .pinned], laidTests := true, laidLooks := .later }
def ProofParsesCardSaid : Prop := Claim7.holds Tryz.pinned (.plain (OpenSpec.ofChange proofParsesSpec)) proofParsesCard

/-- THE SECOND FORM's CARD OF 'sealringlaw11.ProofCounts'. -/
def proofCountsUptoCard : Claim7 := { stood := { row := proofCountsUptoRow, standIns := [], harness := (true, "970cfd4b6396ce30bb11f57493e22e046e77e25109d7e93243dae47802eb29d8"), looks := true }, kinds := [], alts := [], laidByText := true, laidKinds := [.data, .data, .data, .data, .sentinel, .sentinel, .widerDeep, .pinned], laidTests := true, laidLooks := .later }
def ProofCountsUptoCardSaid : Prop := Claim7.holds Tryz.pinned (.plain (OpenSpec.upto proofCountsSpec)) proofCountsUptoCard

/-- THE SECOND FORM's CARD OF 'sealringlaw11.ProofFormats'. -/
def proofFormatsUptoCard : Claim7 := { stood := { row := proofFormatsUptoRow, standIns := [], harness := (true, "970cfd4b6396ce30bb11f57493e22e046e77e25109d7e93243dae47802eb29d8"), looks := true }, kinds := [], alts := [], laidByText := true, laidKinds := [.data, .data, .data, .data, .sentinel, .sentinel, .widerDeep, .pinned], laidTests := true, laidLooks := .later }
def ProofFormatsUptoCardSaid : Prop := Claim7.holds Tryz.pinned (.plain (OpenSpec.upto proofFormatsSpec)) proofFormatsUptoCard

/-- THE SECOND FORM's CARD OF 'sealringlaw11.ProofParses'. -/
def proofParsesUptoCard : Claim7 := { stood := { row := proofParsesUptoRow, standIns := [], harness := (true, "970cfd4b6396ce30bb11f57493e22e046e77e25109d7e93243dae47802eb29d8"), looks := true }, kinds := [], alts := [], laidByText := true, laidKinds := [.data, .data, .data, .data, .sentinel, .sentinel, .widerDeep, .pinned], laidTests := true, laidLooks := .later }
def ProofParsesUptoCardSaid : Prop := Claim7.holds Tryz.pinned (.plain (OpenSpec.upto proofParsesSpec)) proofParsesUptoCard
end Rows
end Go.Proofs.YthpfccfeelhpeaaGreatDoor
