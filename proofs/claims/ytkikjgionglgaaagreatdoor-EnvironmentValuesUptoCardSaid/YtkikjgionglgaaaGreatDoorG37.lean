/-
  EnM13.
-/
import Derived.Test.YtkikjgionglgaaaGreatDoorG23
set_option linter.unusedVariables false
set_option linter.unusedSimpArgs false
namespace Go.Am
theorem QaZ:Qq F.tb N4 400 UE.1 UE.2.1 UE.2.2.1=some (UE.2.2.2.1,UE.2.2.2.2):=by kernel_rfl
theorem Qa0:Qq F.tb N5 400 UF.1 UF.2.1 UF.2.2.1=some (UF.2.2.2.1,UF.2.2.2.2):=by kernel_rfl
theorem Qa1:Qq F.tb N6 400 UG.1 UG.2.1 UG.2.2.1=some (UG.2.2.2.1,UG.2.2.2.2):=by kernel_rfl
theorem Qa2:Qq F.tb N7 400 UH.1 UH.2.1 UH.2.2.1=some (UH.2.2.2.1,UH.2.2.2.2):=by kernel_rfl
theorem Qa3:Qq F.tb N8 400 UI.1 UI.2.1 UI.2.2.1=some (UI.2.2.2.1,UI.2.2.2.2):=by kernel_rfl
end Go.Am
