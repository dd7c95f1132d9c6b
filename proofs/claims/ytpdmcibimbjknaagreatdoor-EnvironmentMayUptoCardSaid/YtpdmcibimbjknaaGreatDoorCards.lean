/-
  DERIVED. GIVEN WITH THE SEED: THE CARDS: each row of YtpdmcibimbjknaaGreatDoorRows.lean that lists a variable, with what it lists TIED to the program's text (the seventh form; the later family's looks); each row that meets fmt, with fmt's text TOLD by the authors' own Lean function (tested against real Go, not proved from fmt's source: count such statements apart). THE CARD IS WHAT COUNTS. Prove the row's statement (the work); the ties are given (YtpdmcibimbjknaaGreatDoorTie.lean); close each card by the builder's one call (the guide's Derived/Test/ToyasCard.lean, 'card_holds'). Laid BY PROGRAM, IN A SANDBOX (cutbox-door.mjs). By AI agents, Wed Nov 11 2026. No macro, syntax, notation, axiom, sorry.
-/
import Derived.Test.YtpdmcibimbjknaaGreatDoorRows
import GoSem.ClaimSeven
namespace Go.Proofs.YtpdmcibimbjknaaGreatDoor
namespace Rows

/-- THE TIED CARD OF 'sealringlaw32.EnvironmentMay'. -/
def environmentMayCard : Claim7 := { stood := { row := environmentMayRow, standIns := [], harness := (true, "01c187999a6a1e9f4f4ec896a73d5a17f9fdd6c874b4c41fc1afbd77c123b6c2"), looks := false }, kinds := [], alts := [], laidByText := true, laidKinds := [.data, .pinned], laidTests := true, laidLooks := .later }
def EnvironmentMayCardSaid : Prop := Claim7.holds Tryz.pinned (.plain (OpenSpec.ofChange environmentMaySpec)) environmentMayCard

/-- THE SECOND FORM's CARD OF 'sealringlaw32.EnvironmentMay'. -/
def environmentMayUptoCard : Claim7 := { stood := { row := environmentMayUptoRow, standIns := [], harness := (true, "01c187999a6a1e9f4f4ec896a73d5a17f9fdd6c874b4c41fc1afbd77c123b6c2"), looks := false }, kinds := [], alts := [], laidByText := true, laidKinds := [.data, .pinned], laidTests := true, laidLooks := .later }
def EnvironmentMayUptoCardSaid : Prop := Claim7.holds Tryz.pinned (.plain (OpenSpec.upto environmentMaySpec)) environmentMayUptoCard
end Rows
end Go.Proofs.YtpdmcibimbjknaaGreatDoor
