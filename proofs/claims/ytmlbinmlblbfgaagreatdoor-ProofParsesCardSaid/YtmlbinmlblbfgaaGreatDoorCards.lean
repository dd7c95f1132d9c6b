/-
  DERIVED. GIVEN WITH THE SEED: THE CARDS: each row of YtmlbinmlblbfgaaGreatDoorRows.lean that lists a variable, with what it lists TIED to the program's text (the seventh form; the later family's looks); each row that meets fmt, with fmt's text TOLD by the authors' own Lean function (tested against real Go, not proved from fmt's source: count such statements apart). THE CARD IS WHAT COUNTS. Prove the row's statement (the work); the ties are given (YtmlbinmlblbfgaaGreatDoorTie.lean); close each card by the builder's one call (the guide's Derived/Test/ToyasCard.lean, 'card_holds'). Laid BY PROGRAM, IN A SANDBOX (cutbox-door.mjs). By AI agents, Wed Nov 11 2026. No macro, syntax, notation, axiom, sorry.
-/
import Derived.Test.YtmlbinmlblbfgaaGreatDoorRows
import GoSem.ClaimSeven
namespace Go.Proofs.YtmlbinmlblbfgaaGreatDoor
namespace Rows

/-- THE TIED CARD OF 'sealringlaw11.ProofFormats'. -/
def proofFormatsCard : Claim7 := { stood := { row := proofFormatsRow, standIns := [], harness := (true, "f388bc232e7875ad99c7fa84ad004b74c7dc67827d4f3e3981a2c3950dc0fc50"), looks := true }, kinds := [], alts := [], laidByText := true, laidKinds := [.data, .data, .data, .data, .sentinel, .sentinel, .widerDeep, .pinned], laidTests := true, laidLooks := .later }
def ProofFormatsCardSaid : Prop := Claim7.holds Tryz.pinned (.plain (OpenSpec.ofChange proofFormatsSpec)) proofFormatsCard

/-- THE TIED CARD OF 'sealringlaw11.ProofParses'. -/
def proofParsesCard : Claim7 := { stood := { row := proofParsesRow, standIns := [], harness := (true, "f388bc232e7875ad99c7fa84ad004b74c7dc67827d4f3e3981a2c3950dc0fc50"), looks := true }, kinds := [], alts := [], laidByText := true, laidKinds := [.data, .data, .data, .data, .sentinel, .sentinel, .widerDeep, .pinned], laidTests := true, laidLooks := .later }
def ProofParsesCardSaid : Prop := Claim7.holds Tryz.pinned (.plain (OpenSpec.ofChange proofParsesSpec)) proofParsesCard

/-- THE SECOND FORM's CARD OF 'sealringlaw11.ProofFormats'. -/
def proofFormatsUptoCard : Claim7 := { stood := { row := proofFormatsUptoRow, standIns := [], harness := (true, "f388bc232e7875ad99c7fa84ad004b74c7dc67827d4f3e3981a2c3950dc0fc50"), looks := true }, kinds := [], alts := [], laidByText := true, laidKinds := [.data, .data, .data, .data, .sentinel, .sentinel, .widerDeep, .pinned], laidTests := true, laidLooks := .later }
def ProofFormatsUptoCardSaid : Prop := Claim7.holds Tryz.pinned (.plain (OpenSpec.upto proofFormatsSpec)) proofFormatsUptoCard

/-- THE SECOND FORM's CARD OF 'sealringlaw11.ProofParses'. -/
def proofParsesUptoCard : Claim7 := { stood := { row := proofParsesUptoRow, standIns := [], harness := (true, "f388bc232e7875ad99c7fa84ad004b74c7dc67827d4f3e3981a2c3950dc0fc50"), looks := true }, kinds := [], alts := [], laidByText := true, laidKinds := [.data, .data, .data, .data, .sentinel, .sentinel, .widerDeep, .pinned], laidTests := true, laidLooks := .later }
def ProofParsesUptoCardSaid : Prop := Claim7.holds Tryz.pinned (.plain (OpenSpec.upto proofParsesSpec)) proofParsesUptoCard
end Rows
end Go.Proofs.YtmlbinmlblbfgaaGreatDoor
