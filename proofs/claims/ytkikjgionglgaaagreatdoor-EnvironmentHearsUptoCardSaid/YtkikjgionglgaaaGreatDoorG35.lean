/-
  EnM11.
-/
import Derived.Test.YtkikjgionglgaaaGreatDoorG23
set_option linter.unusedVariables false
set_option linter.unusedSimpArgs false
namespace Go.Am
theorem QeB:Qq F.tb K1 400 S2.1 S2.2.1 S2.2.2.1=some (S2.2.2.2.1,S2.2.2.2.2):=by kernel_rfl
theorem QeC:Qq F.tb K2 400 S3.1 S3.2.1 S3.2.2.1=some (S3.2.2.2.1,S3.2.2.2.2):=by kernel_rfl
theorem QeD:Qq F.tb K3 400 S4.1 S4.2.1 S4.2.2.1=some (S4.2.2.2.1,S4.2.2.2.2):=by kernel_rfl
theorem QeE:Qq F.tb K4 400 S5.1 S5.2.1 S5.2.2.1=some (S5.2.2.2.1,S5.2.2.2.2):=by kernel_rfl
theorem QeF:Qq F.tb K5 400 S6.1 S6.2.1 S6.2.2.1=some (S6.2.2.2.1,S6.2.2.2.2):=by kernel_rfl
theorem QeG:Qq F.tb K6 400 S7.1 S7.2.1 S7.2.2.1=some (S7.2.2.2.1,S7.2.2.2.2):=by kernel_rfl
theorem QeH:Qq F.tb K7 400 S8.1 S8.2.1 S8.2.2.1=some (S8.2.2.2.1,S8.2.2.2.2):=by kernel_rfl
theorem QeI:Qq F.tb K8 400 S9.1 S9.2.1 S9.2.2.1=some (S9.2.2.2.1,S9.2.2.2.2):=by kernel_rfl
end Go.Am
