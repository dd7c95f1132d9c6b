/-
  EnM0.
-/
import Derived.Test.YtkikjgionglgaaaGreatDoorG23
set_option linter.unusedVariables false
set_option linter.unusedSimpArgs false
namespace Go.Am
theorem QfL:Qq F.tb GM 400 P0.1 P0.2.1 P0.2.2.1=some (P0.2.2.2.1,P0.2.2.2.2):=by kernel_rfl
theorem QfM:Qq F.tb GN 400 P1.1 P1.2.1 P1.2.2.1=some (P1.2.2.2.1,P1.2.2.2.2):=by kernel_rfl
theorem QfN:Qq F.tb GO 400 P2.1 P2.2.1 P2.2.2.1=some (P2.2.2.2.1,P2.2.2.2.2):=by kernel_rfl
theorem QfO:Qq F.tb GP 400 P3.1 P3.2.1 P3.2.2.1=some (P3.2.2.2.1,P3.2.2.2.2):=by kernel_rfl
theorem QfP:Qq F.tb GQ 400 P4.1 P4.2.1 P4.2.2.1=some (P4.2.2.2.1,P4.2.2.2.2):=by kernel_rfl
theorem QfQ:Qq F.tb GR 400 P5.1 P5.2.1 P5.2.2.1=some (P5.2.2.2.1,P5.2.2.2.2):=by kernel_rfl
theorem QfR:Qq F.tb GS 400 P6.1 P6.2.1 P6.2.2.1=some (P6.2.2.2.1,P6.2.2.2.2):=by kernel_rfl
theorem QfS:Qq F.tb GT 400 P7.1 P7.2.1 P7.2.2.1=some (P7.2.2.2.1,P7.2.2.2.2):=by kernel_rfl
end Go.Am
