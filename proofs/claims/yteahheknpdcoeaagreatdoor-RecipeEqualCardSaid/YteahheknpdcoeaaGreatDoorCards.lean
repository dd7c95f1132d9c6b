/-
  DERIVED. GIVEN WITH THE SEED: THE CARDS: each row of YteahheknpdcoeaaGreatDoorRows.lean that lists a variable, with what it lists TIED to the program's text (the seventh form; the later family's looks); each row that meets fmt, with fmt's text TOLD by the authors' own Lean function (tested against real Go, not proved from fmt's source: count such statements apart). THE CARD IS WHAT COUNTS. Prove the row's statement (the work); the ties are given (YteahheknpdcoeaaGreatDoorTie.lean); close each card by the builder's one call (the guide's Derived/Test/ToyasCard.lean, 'card_holds'). Laid BY PROGRAM, IN A SANDBOX (cutbox-door.mjs). By AI agents, Wed Nov 11 2026. No macro, syntax, notation, axiom, sorry.
-/
import Derived.Test.YteahheknpdcoeaaGreatDoorRows
import GoSem.ClaimSeven
namespace Go.Proofs.YteahheknpdcoeaaGreatDoor
namespace Rows

/-- THE TIED CARD OF 'sealringlaw13.RecipeValid'. -/
def recipeValidCard : Claim7 := { stood := { row := recipeValidRow, standIns := [], harness := (true, "96a4955000f57c2aaf027f499d13f452eadffbf6feefb694de581838566e4455"), looks := false }, kinds := [], alts := [], laidByText := true, laidKinds := [.data, .data, .data, .data, .pinned], laidTests := true, laidLooks := .later }
def RecipeValidCardSaid : Prop := Claim7.holds Tryz.pinned (.plain (OpenSpec.ofChange recipeValidSpec)) recipeValidCard

/-- THE TIED CARD OF 'sealringlaw13.RecipeValue'. -/
def recipeValueCard : Claim7 := { stood := { row := recipeValueRow, standIns := [], harness := (true, "96a4955000f57c2aaf027f499d13f452eadffbf6feefb694de581838566e4455"), looks := false }, kinds := [], alts := [], laidByText := true, laidKinds := [.data, .data, .data, .data, .pinned], laidTests := true, laidLooks := .later }
def RecipeValueCardSaid : Prop := Claim7.holds Tryz.pinned (.plain (OpenSpec.ofChange recipeValueSpec)) recipeValueCard

/-- THE TIED CARD OF 'sealringlaw13.RecipeDerivable'. -/
def recipeDerivableCard : Claim7 := { stood := { row := recipeDerivableRow, standIns := [], harness := (true, "96a4955000f57c2aaf027f499d13f452eadffbf6feefb694de581838566e4455"), looks := false }, kinds := [], alts := [], laidByText := true, laidKinds := [.data, .data, .data, .data, .pinned], laidTests := true, laidLooks := .later }
def RecipeDerivableCardSaid : Prop := Claim7.holds Tryz.pinned (.plain (OpenSpec.ofChange recipeDerivableSpec)) recipeDerivableCard

/-- THE TIED CARD OF 'sealringlaw13.RecipeEqual'. -/
def recipeEqualCard : Claim7 := { stood := { row := recipeEqualRow, standIns := [], harness := (true, "96a4955000f57c2aaf027f499d13f452eadffbf6feefb694de581838566e4455"), looks := false }, kinds := [], alts := [], laidByText := true, laidKinds := [.data, .data, .data, .data, .pinned], laidTests := true, laidLooks := .later }
def RecipeEqualCardSaid : Prop := Claim7.holds Tryz.pinned (.plain (OpenSpec.ofChange recipeEqualSpec)) recipeEqualCard

/-- THE TIED CARD OF 'sealringlaw13.RecipeExtend'. -/
def recipeExtendCard : Claim7 := { stood := { row := recipeExtendRow, standIns := [], harness := (true, "96a4955000f57c2aaf027f499d13f452eadffbf6feefb694de581838566e4455"), looks := false }, kinds := [], alts := [], laidByText := true, laidKinds := [.data, .data, .data, .data, .pinned], laidTests := true, laidLooks := .later }
def RecipeExtendCardSaid : Prop := Claim7.holds Tryz.pinned (.plain (OpenSpec.ofChange recipeExtendSpec)) recipeExtendCard

/-- THE TIED CARD OF 'sealringlaw13.RecipeOf'. -/
def recipeOfCard : Claim7 := { stood := { row := recipeOfRow, standIns := [], harness := (true, "96a4955000f57c2aaf027f499d13f452eadffbf6feefb694de581838566e4455"), looks := false }, kinds := [], alts := [], laidByText := true, laidKinds := [.data, .data, .data, .data, .data, .pinned], laidTests := true, laidLooks := .later }
def RecipeOfCardSaid : Prop := Claim7.holds Tryz.pinned (.plain (OpenSpec.ofChange recipeOfSpec)) recipeOfCard

/-- THE SECOND FORM's CARD OF 'sealringlaw13.RecipeValid'. -/
def recipeValidUptoCard : Claim7 := { stood := { row := recipeValidUptoRow, standIns := [], harness := (true, "96a4955000f57c2aaf027f499d13f452eadffbf6feefb694de581838566e4455"), looks := false }, kinds := [], alts := [], laidByText := true, laidKinds := [.data, .data, .data, .data, .pinned], laidTests := true, laidLooks := .later }
def RecipeValidUptoCardSaid : Prop := Claim7.holds Tryz.pinned (.plain (OpenSpec.upto recipeValidSpec)) recipeValidUptoCard

/-- THE SECOND FORM's CARD OF 'sealringlaw13.RecipeValue'. -/
def recipeValueUptoCard : Claim7 := { stood := { row := recipeValueUptoRow, standIns := [], harness := (true, "96a4955000f57c2aaf027f499d13f452eadffbf6feefb694de581838566e4455"), looks := false }, kinds := [], alts := [], laidByText := true, laidKinds := [.data, .data, .data, .data, .pinned], laidTests := true, laidLooks := .later }
def RecipeValueUptoCardSaid : Prop := Claim7.holds Tryz.pinned (.plain (OpenSpec.upto recipeValueSpec)) recipeValueUptoCard

/-- THE SECOND FORM's CARD OF 'sealringlaw13.RecipeDerivable'. -/
def recipeDerivableUptoCard : Claim7 := { stood := { row := recipeDerivableUptoRow, standIns := [], harness := (true, "96a4955000f57c2aaf027f499d13f452eadffbf6feefb694de581838566e4455"), looks := false }, kinds := [], alts := [], laidByText := true, laidKinds := [.data, .data, .data, .data, .pinned], laidTests := true, laidLooks := .later }
def RecipeDerivableUptoCardSaid : Prop := Claim7.holds Tryz.pinned (.plain (OpenSpec.upto recipeDerivableSpec)) recipeDerivableUptoCard

/-- THE SECOND FORM's CARD OF 'sealringlaw13.RecipeEqual'. -/
def recipeEqualUptoCard : Claim7 := { stood := { row := recipeEqualUptoRow, standIns := [], harness := (true, "96a4955000f57c2aaf027f499d13f452eadffbf6feefb694de581838566e4455"), looks := false }, kinds := [], alts := [], laidByText := true, laidKinds := [.data, .data, .data, .data, .pinned], laidTests := true, laidLooks := .later }
def RecipeEqualUptoCardSaid : Prop := Claim7.holds Tryz.pinned (.plain (OpenSpec.upto recipeEqualSpec)) recipeEqualUptoCard

/-- THE SECOND FORM's CARD OF 'sealringlaw13.RecipeExtend'. -/
def recipeExtendUptoCard : Claim7 := { stood := { row := recipeExtendUptoRow, standIns := [], harness := (true, "96a4955000f57c2aaf027f499d13f452eadffbf6feefb694de581838566e4455"), looks := false }, kinds := [], alts := [], laidByText := true, laidKinds := [.data, .data, .data, .data, .pinned], laidTests := true, laidLooks := .later }
def RecipeExtendUptoCardSaid : Prop := Claim7.holds Tryz.pinned (.plain (OpenSpec.upto recipeExtendSpec)) recipeExtendUptoCard

/-- THE SECOND FORM's CARD OF 'sealringlaw13.RecipeOf'. -/
def recipeOfUptoCard : Claim7 := { stood := { row := recipeOfUptoRow, standIns := [], harness := (true, "96a4955000f57c2aaf027f499d13f452eadffbf6feefb694de581838566e4455"), looks := false }, kinds := [], alts := [], laidByText := true, laidKinds := [.data, .data, .data, .data, .data, .pinned], laidTests := true, laidLooks := .later }
def RecipeOfUptoCardSaid : Prop := Claim7.holds Tryz.pinned (.plain (OpenSpec.upto recipeOfSpec)) recipeOfUptoCard
end Rows
end Go.Proofs.YteahheknpdcoeaaGreatDoor
