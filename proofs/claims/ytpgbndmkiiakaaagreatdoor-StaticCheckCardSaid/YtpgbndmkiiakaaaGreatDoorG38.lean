/-
  ScM13.
-/
import Derived.Test.YtpgbndmkiiakaaaGreatDoorG24
set_option linter.unusedVariables false
set_option linter.unusedSimpArgs false
namespace Go.Am
theorem Qdl:Ql F.tb M1 400 UG.1 UG.2.1 UG.2.2.1=some (UG.2.2.2.1,UG.2.2.2.2):=by kernel_rfl
theorem Qdm:Ql F.tb M3 400 UH.1 UH.2.1 UH.2.2.1=some (UH.2.2.2.1,UH.2.2.2.2):=by kernel_rfl
theorem Qdn:Ql F.tb M4 400 UI.1 UI.2.1 UI.2.2.1=some (UI.2.2.2.1,UI.2.2.2.2):=by kernel_rfl
theorem Qdo:Ql F.tb M5 400 UJ.1 UJ.2.1 UJ.2.2.1=some (UJ.2.2.2.1,UJ.2.2.2.2):=by kernel_rfl
theorem Qdp:Ql F.tb M6 400 UK.1 UK.2.1 UK.2.2.1=some (UK.2.2.2.1,UK.2.2.2.2):=by kernel_rfl
theorem Qdq:Ql F.tb M7 400 UL.1 UL.2.1 UL.2.2.1=some (UL.2.2.2.1,UL.2.2.2.2):=by kernel_rfl
theorem Qdr:Ql F.tb M8 400 UM.1 UM.2.1 UM.2.2.1=some (UM.2.2.2.1,UM.2.2.2.2):=by kernel_rfl
theorem Qds:Ql F.tb M9 400 UN.1 UN.2.1 UN.2.2.1=some (UN.2.2.2.1,UN.2.2.2.2):=by kernel_rfl
end Go.Am
