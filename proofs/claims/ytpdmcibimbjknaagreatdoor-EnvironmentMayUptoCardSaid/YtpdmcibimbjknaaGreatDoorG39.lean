/-
  EnM13.
-/
import Derived.Test.YtpdmcibimbjknaaGreatDoorG25
set_option linter.unusedVariables false
set_option linter.unusedSimpArgs false
namespace Go.Am
theorem Qck:Qs F.tb MU 400 U4.1 U4.2.1 U4.2.2.1=some (U4.2.2.2.1,U4.2.2.2.2):=by kernel_rfl
theorem Qcl:Qs F.tb MV 400 U5.1 U5.2.1 U5.2.2.1=some (U5.2.2.2.1,U5.2.2.2.2):=by kernel_rfl
theorem Qcm:Qs F.tb MW 400 U6.1 U6.2.1 U6.2.2.1=some (U6.2.2.2.1,U6.2.2.2.2):=by kernel_rfl
theorem Qcn:Qs F.tb MY 400 U7.1 U7.2.1 U7.2.2.1=some (U7.2.2.2.1,U7.2.2.2.2):=by kernel_rfl
theorem Qco:Qs F.tb MZ 400 U8.1 U8.2.1 U8.2.2.1=some (U8.2.2.2.1,U8.2.2.2.2):=by kernel_rfl
end Go.Am
