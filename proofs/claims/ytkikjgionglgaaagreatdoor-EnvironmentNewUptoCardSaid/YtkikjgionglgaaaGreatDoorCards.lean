/-
  DERIVED. GIVEN WITH THE SEED: THE CARDS: each row of YtkikjgionglgaaaGreatDoorRows.lean that lists a variable, with what it lists TIED to the program's text (the seventh form; the later family's looks); each row that meets fmt, with fmt's text TOLD by the authors' own Lean function (tested against real Go, not proved from fmt's source: count such statements apart). THE CARD IS WHAT COUNTS. Prove the row's statement (the work); the ties are given (YtkikjgionglgaaaGreatDoorTie.lean); close each card by the builder's one call (the guide's Derived/Test/ToyasCard.lean, 'card_holds'). Laid BY PROGRAM, IN A SANDBOX (cutbox-door.mjs). By AI agents, Wed Nov 11 2026. No macro, syntax, notation, axiom, sorry.
-/
import Derived.Test.YtkikjgionglgaaaGreatDoorRows
import GoSem.ClaimSeven
namespace Go.Proofs.YtkikjgionglgaaaGreatDoor
namespace Rows

/-- THE TIED CARD OF 'sealringlaw32.EnvironmentNew'. -/
def environmentNewCard : Claim7 := { stood := { row := environmentNewRow, standIns := [], harness := (true, "a9f8fcb85e7525422ef282c4d853b3e94d055f1252005b66cf7b57c11ffcbb7d"), looks := false }, kinds := [], alts := [], laidByText := true, laidKinds := [.data, .pinned], laidTests := true, laidLooks := .later }
def EnvironmentNewCardSaid : Prop := Claim7.holds Tryz.pinned (.plain (OpenSpec.ofChange environmentNewSpec)) environmentNewCard

/-- THE TIED CARD OF 'sealringlaw32.EnvironmentValues'. -/
def environmentValuesCard : Claim7 := { stood := { row := environmentValuesRow, standIns := [], harness := (true, "a9f8fcb85e7525422ef282c4d853b3e94d055f1252005b66cf7b57c11ffcbb7d"), looks := false }, kinds := [], alts := [], laidByText := true, laidKinds := [.data, .pinned], laidTests := true, laidLooks := .later }
def EnvironmentValuesCardSaid : Prop := Claim7.holds Tryz.pinned (.plain (OpenSpec.ofChange environmentValuesSpec)) environmentValuesCard

/-- THE TIED CARD OF 'sealringlaw32.EnvironmentHears'. -/
def environmentHearsCard : Claim7 := { stood := { row := environmentHearsRow, standIns := [], harness := (true, "a9f8fcb85e7525422ef282c4d853b3e94d055f1252005b66cf7b57c11ffcbb7d"), looks := false }, kinds := [], alts := [], laidByText := true, laidKinds := [.data, .pinned], laidTests := true, laidLooks := .later }
def EnvironmentHearsCardSaid : Prop := Claim7.holds Tryz.pinned (.plain (OpenSpec.ofChange environmentHearsSpec)) environmentHearsCard

/-- THE SECOND FORM's CARD OF 'sealringlaw32.EnvironmentNew'. -/
def environmentNewUptoCard : Claim7 := { stood := { row := environmentNewUptoRow, standIns := [], harness := (true, "a9f8fcb85e7525422ef282c4d853b3e94d055f1252005b66cf7b57c11ffcbb7d"), looks := false }, kinds := [], alts := [], laidByText := true, laidKinds := [.data, .pinned], laidTests := true, laidLooks := .later }
def EnvironmentNewUptoCardSaid : Prop := Claim7.holds Tryz.pinned (.plain (OpenSpec.upto environmentNewSpec)) environmentNewUptoCard

/-- THE SECOND FORM's CARD OF 'sealringlaw32.EnvironmentValues'. -/
def environmentValuesUptoCard : Claim7 := { stood := { row := environmentValuesUptoRow, standIns := [], harness := (true, "a9f8fcb85e7525422ef282c4d853b3e94d055f1252005b66cf7b57c11ffcbb7d"), looks := false }, kinds := [], alts := [], laidByText := true, laidKinds := [.data, .pinned], laidTests := true, laidLooks := .later }
def EnvironmentValuesUptoCardSaid : Prop := Claim7.holds Tryz.pinned (.plain (OpenSpec.upto environmentValuesSpec)) environmentValuesUptoCard

/-- THE SECOND FORM's CARD OF 'sealringlaw32.EnvironmentHears'. -/
def environmentHearsUptoCard : Claim7 := { stood := { row := environmentHearsUptoRow, standIns := [], harness := (true, "a9f8fcb85e7525422ef282c4d853b3e94d055f1252005b66cf7b57c11ffcbb7d"), looks := false }, kinds := [], alts := [], laidByText := true, laidKinds := [.data, .pinned], laidTests := true, laidLooks := .later }
def EnvironmentHearsUptoCardSaid : Prop := Claim7.holds Tryz.pinned (.plain (OpenSpec.upto environmentHearsSpec)) environmentHearsUptoCard
end Rows
end Go.Proofs.YtkikjgionglgaaaGreatDoor
