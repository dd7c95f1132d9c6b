/-
  DERIVED. GIVEN WITH THE SEED: THE CARDS: each row of YtgjaamacjmjjcaaGreatDoorRows.lean that lists a variable, with what it lists TIED to the program's text (the seventh form; the later family's looks); each row that meets fmt, with fmt's text TOLD by the authors' own Lean function (tested against real Go, not proved from fmt's source: count such statements apart). THE CARD IS WHAT COUNTS. Prove the row's statement (the work); the ties are given (YtgjaamacjmjjcaaGreatDoorTie.lean); close each card by the builder's one call (the guide's Derived/Test/ToyasCard.lean, 'card_holds'). Laid BY PROGRAM, IN A SANDBOX (cutbox-door.mjs). By AI agents, Wed Nov 11 2026. No macro, syntax, notation, axiom, sorry.
-/
import Derived.Test.YtgjaamacjmjjcaaGreatDoorRows
import GoSem.ClaimSeven
namespace Go.Proofs.YtgjaamacjmjjcaaGreatDoor
namespace Rows

/-- THE TIED CARD OF 'sealringlaw10.KnowledgeDerivable'. -/
def knowledgeDerivableCard : Claim7 := { stood := { row := knowledgeDerivableRow, standIns := [], harness := (true, "01bf5e2af2af4c26d4959ebbbdfda85fb0a85059bac2e65f031dedb5892e2b4c"), looks := false }, kinds := [], alts := [], laidByText := true, laidKinds := [.data, .pinned], laidTests := true, laidLooks := .later }
def KnowledgeDerivableCardSaid : Prop := Claim7.holds Tryz.pinned (.plain (OpenSpec.ofChange knowledgeDerivableSpec)) knowledgeDerivableCard

/-- THE TIED CARD OF 'sealringlaw10.KnowledgeDescribed'. -/
def knowledgeDescribedCard : Claim7 := { stood := { row := knowledgeDescribedRow, standIns := [], harness := (true, "01bf5e2af2af4c26d4959ebbbdfda85fb0a85059bac2e65f031dedb5892e2b4c"), looks := false }, kinds := [], alts := [], laidByText := true, laidKinds := [.data, .pinned], laidTests := true, laidLooks := .later }
def KnowledgeDescribedCardSaid : Prop := Claim7.holds Tryz.pinned (.plain (OpenSpec.ofChange knowledgeDescribedSpec)) knowledgeDescribedCard

/-- THE TIED CARD OF 'sealringlaw10.KnowledgeKnown'. -/
def knowledgeKnownCard : Claim7 := { stood := { row := knowledgeKnownRow, standIns := [], harness := (true, "01bf5e2af2af4c26d4959ebbbdfda85fb0a85059bac2e65f031dedb5892e2b4c"), looks := false }, kinds := [], alts := [], laidByText := true, laidKinds := [.data, .pinned], laidTests := true, laidLooks := .later }
def KnowledgeKnownCardSaid : Prop := Claim7.holds Tryz.pinned (.plain (OpenSpec.ofChange knowledgeKnownSpec)) knowledgeKnownCard

/-- THE TIED CARD OF 'sealringlaw10.KnowledgeUniverse'. -/
def knowledgeUniverseCard : Claim7 := { stood := { row := knowledgeUniverseRow, standIns := [], harness := (true, "01bf5e2af2af4c26d4959ebbbdfda85fb0a85059bac2e65f031dedb5892e2b4c"), looks := false }, kinds := [], alts := [], laidByText := true, laidKinds := [.data, .pinned], laidTests := true, laidLooks := .later }
def KnowledgeUniverseCardSaid : Prop := Claim7.holds Tryz.pinned (.plain (OpenSpec.ofChange knowledgeUniverseSpec)) knowledgeUniverseCard

/-- THE TIED CARD OF 'sealringlaw10.KnowledgeLists'. -/
def knowledgeListsCard : Claim7 := { stood := { row := knowledgeListsRow, standIns := [], harness := (true, "01bf5e2af2af4c26d4959ebbbdfda85fb0a85059bac2e65f031dedb5892e2b4c"), looks := false }, kinds := [], alts := [], laidByText := true, laidKinds := [.data, .pinned], laidTests := true, laidLooks := .later }
def KnowledgeListsCardSaid : Prop := Claim7.holds Tryz.pinned (.plain (OpenSpec.ofChange knowledgeListsSpec)) knowledgeListsCard

/-- THE SECOND FORM's CARD OF 'sealringlaw10.KnowledgeDerivable'. -/
def knowledgeDerivableUptoCard : Claim7 := { stood := { row := knowledgeDerivableUptoRow, standIns := [], harness := (true, "01bf5e2af2af4c26d4959ebbbdfda85fb0a85059bac2e65f031dedb5892e2b4c"), looks := false }, kinds := [], alts := [], laidByText := true, laidKinds := [.data, .pinned], laidTests := true, laidLooks := .later }
def KnowledgeDerivableUptoCardSaid : Prop := Claim7.holds Tryz.pinned (.plain (OpenSpec.upto knowledgeDerivableSpec)) knowledgeDerivableUptoCard

/-- THE SECOND FORM's CARD OF 'sealringlaw10.KnowledgeDescribed'. -/
def knowledgeDescribedUptoCard : Claim7 := { stood := { row := knowledgeDescribedUptoRow, standIns := [], harness := (true, "01bf5e2af2af4c26d4959ebbbdfda85fb0a85059bac2e65f031dedb5892e2b4c"), looks := false }, kinds := [], alts := [], laidByText := true, laidKinds := [.data, .pinned], laidTests := true, laidLooks := .later }
def KnowledgeDescribedUptoCardSaid : Prop := Claim7.holds Tryz.pinned (.plain (OpenSpec.upto knowledgeDescribedSpec)) knowledgeDescribedUptoCard

/-- THE SECOND FORM's CARD OF 'sealringlaw10.KnowledgeKnown'. -/
def knowledgeKnownUptoCard : Claim7 := { stood := { row := knowledgeKnownUptoRow, standIns := [], harness := (true, "01bf5e2af2af4c26d4959ebbbdfda85fb0a85059bac2e65f031dedb5892e2b4c"), looks := false }, kinds := [], alts := [], laidByText := true, laidKinds := [.data, .pinned], laidTests := true, laidLooks := .later }
def KnowledgeKnownUptoCardSaid : Prop := Claim7.holds Tryz.pinned (.plain (OpenSpec.upto knowledgeKnownSpec)) knowledgeKnownUptoCard

/-- THE SECOND FORM's CARD OF 'sealringlaw10.KnowledgeUniverse'. -/
def knowledgeUniverseUptoCard : Claim7 := { stood := { row := knowledgeUniverseUptoRow, standIns := [], harness := (true, "01bf5e2af2af4c26d4959ebbbdfda85fb0a85059bac2e65f031dedb5892e2b4c"), looks := false }, kinds := [], alts := [], laidByText := true, laidKinds := [.data, .pinned], laidTests := true, laidLooks := .later }
def KnowledgeUniverseUptoCardSaid : Prop := Claim7.holds Tryz.pinned (.plain (OpenSpec.upto knowledgeUniverseSpec)) knowledgeUniverseUptoCard

/-- THE SECOND FORM's CARD OF 'sealringlaw10.KnowledgeLists'. -/
def knowledgeListsUptoCard : Claim7 := { stood := { row := knowledgeListsUptoRow, standIns := [], harness := (true, "01bf5e2af2af4c26d4959ebbbdfda85fb0a85059bac2e65f031dedb5892e2b4c"), looks := false }, kinds := [], alts := [], laidByText := true, laidKinds := [.data, .pinned], laidTests := true, laidLooks := .later }
def KnowledgeListsUptoCardSaid : Prop := Claim7.holds Tryz.pinned (.plain (OpenSpec.upto knowledgeListsSpec)) knowledgeListsUptoCard
end Rows
end Go.Proofs.YtgjaamacjmjjcaaGreatDoor
