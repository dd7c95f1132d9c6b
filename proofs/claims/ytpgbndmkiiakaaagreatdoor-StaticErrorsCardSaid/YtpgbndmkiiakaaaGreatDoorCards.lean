/-
  DERIVED. GIVEN WITH THE SEED: THE CARDS: each row of YtpgbndmkiiakaaaGreatDoorRows.lean that lists a variable, with what it lists TIED to the program's text (the seventh form; the later family's looks); each row that meets fmt, with fmt's text TOLD by the authors' own Lean function (tested against real Go, not proved from fmt's source: count such statements apart). THE CARD IS WHAT COUNTS. Prove the row's statement (the work); the ties are given (YtpgbndmkiiakaaaGreatDoorTie.lean); close each card by the builder's one call (the guide's Derived/Test/ToyasCard.lean, 'card_holds'). Laid BY PROGRAM, IN A SANDBOX (cutbox-door.mjs). By AI agents, Wed Nov 11 2026. No macro, syntax, notation, axiom, sorry.
-/
import Derived.Test.YtpgbndmkiiakaaaGreatDoorRows
import GoSem.ClaimSeven
namespace Go.Proofs.YtpgbndmkiiakaaaGreatDoor
namespace Rows

/-- THE TIED CARD OF 'sealringlaw14.StaticHolds'. -/
def staticHoldsCard : Claim7 := { stood := { row := staticHoldsRow, standIns := [], harness := (true, "7576202b7255e20d4819fa17330f86cc2c2946d8690c03c270ff0eb254462c38"), looks := false }, kinds := [], alts := [], laidByText := true, laidKinds := [.data, .data, .data, .data, .pinned], laidTests := true, laidLooks := .later }
def StaticHoldsCardSaid : Prop := Claim7.holds Tryz.pinned (.plain (OpenSpec.ofChange staticHoldsSpec)) staticHoldsCard

/-- THE TIED CARD OF 'sealringlaw14.StaticErrors'. -/
def staticErrorsCard : Claim7 := { stood := { row := staticErrorsRow, standIns := [], harness := (true, "7576202b7255e20d4819fa17330f86cc2c2946d8690c03c270ff0eb254462c38"), looks := false }, kinds := [], alts := [], laidByText := true, laidKinds := [.data, .data, .data, .data, .pinned], laidTests := true, laidLooks := .later }
def StaticErrorsCardSaid : Prop := Claim7.holds Tryz.pinned (.plain (OpenSpec.ofChange staticErrorsSpec)) staticErrorsCard

/-- THE TIED CARD OF 'sealringlaw14.StaticCheck'. -/
def staticCheckCard : Claim7 := { stood := { row := staticCheckRow, standIns := [], harness := (true, "7576202b7255e20d4819fa17330f86cc2c2946d8690c03c270ff0eb254462c38"), looks := false }, kinds := [], alts := [], laidByText := true, laidKinds := [.data, .data, .data, .data, .pinned], laidTests := true, laidLooks := .later }
def StaticCheckCardSaid : Prop := Claim7.holds Tryz.pinned (.plain (OpenSpec.ofChange staticCheckSpec)) staticCheckCard

/-- THE TIED CARD OF 'sealringlaw14.StaticSaturate'. -/
def staticSaturateCard : Claim7 := { stood := { row := staticSaturateRow, standIns := [], harness := (true, "7576202b7255e20d4819fa17330f86cc2c2946d8690c03c270ff0eb254462c38"), looks := false }, kinds := [], alts := [], laidByText := true, laidKinds := [.data, .data, .data, .data, .pinned], laidTests := true, laidLooks := .later }
def StaticSaturateCardSaid : Prop := Claim7.holds Tryz.pinned (.plain (OpenSpec.ofChange staticSaturateSpec)) staticSaturateCard

/-- THE SECOND FORM's CARD OF 'sealringlaw14.StaticHolds'. -/
def staticHoldsUptoCard : Claim7 := { stood := { row := staticHoldsUptoRow, standIns := [], harness := (true, "7576202b7255e20d4819fa17330f86cc2c2946d8690c03c270ff0eb254462c38"), looks := false }, kinds := [], alts := [], laidByText := true, laidKinds := [.data, .data, .data, .data, .pinned], laidTests := true, laidLooks := .later }
def StaticHoldsUptoCardSaid : Prop := Claim7.holds Tryz.pinned (.plain (OpenSpec.upto staticHoldsSpec)) staticHoldsUptoCard

/-- THE SECOND FORM's CARD OF 'sealringlaw14.StaticErrors'. -/
def staticErrorsUptoCard : Claim7 := { stood := { row := staticErrorsUptoRow, standIns := [], harness := (true, "7576202b7255e20d4819fa17330f86cc2c2946d8690c03c270ff0eb254462c38"), looks := false }, kinds := [], alts := [], laidByText := true, laidKinds := [.data, .data, .data, .data, .pinned], laidTests := true, laidLooks := .later }
def StaticErrorsUptoCardSaid : Prop := Claim7.holds Tryz.pinned (.plain (OpenSpec.upto staticErrorsSpec)) staticErrorsUptoCard

/-- THE SECOND FORM's CARD OF 'sealringlaw14.StaticCheck'. -/
def staticCheckUptoCard : Claim7 := { stood := { row := staticCheckUptoRow, standIns := [], harness := (true, "7576202b7255e20d4819fa17330f86cc2c2946d8690c03c270ff0eb254462c38"), looks := false }, kinds := [], alts := [], laidByText := true, laidKinds := [.data, .data, .data, .data, .pinned], laidTests := true, laidLooks := .later }
def StaticCheckUptoCardSaid : Prop := Claim7.holds Tryz.pinned (.plain (OpenSpec.upto staticCheckSpec)) staticCheckUptoCard

/-- THE SECOND FORM's CARD OF 'sealringlaw14.StaticSaturate'. -/
def staticSaturateUptoCard : Claim7 := { stood := { row := staticSaturateUptoRow, standIns := [], harness := (true, "7576202b7255e20d4819fa17330f86cc2c2946d8690c03c270ff0eb254462c38"), looks := false }, kinds := [], alts := [], laidByText := true, laidKinds := [.data, .data, .data, .data, .pinned], laidTests := true, laidLooks := .later }
def StaticSaturateUptoCardSaid : Prop := Claim7.holds Tryz.pinned (.plain (OpenSpec.upto staticSaturateSpec)) staticSaturateUptoCard
end Rows
end Go.Proofs.YtpgbndmkiiakaaaGreatDoor
