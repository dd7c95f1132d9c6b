/-
  ScM5.
-/
import Derived.Test.YtpgbndmkiiakaaaGreatDoorG24
set_option linter.unusedVariables false
set_option linter.unusedSimpArgs false
namespace Go.Am
theorem QgS:Ql F.tb JQ 400 SR.1 SR.2.1 SR.2.2.1=some (SR.2.2.2.1,SR.2.2.2.2):=by kernel_rfl
theorem QgT:Ql F.tb JR 400 SS.1 SS.2.1 SS.2.2.1=some (SS.2.2.2.1,SS.2.2.2.2):=by kernel_rfl
theorem QgU:Ql F.tb JS 400 ST.1 ST.2.1 ST.2.2.1=some (ST.2.2.2.1,ST.2.2.2.2):=by kernel_rfl
theorem QgV:Ql F.tb JT 400 SU.1 SU.2.1 SU.2.2.1=some (SU.2.2.2.1,SU.2.2.2.2):=by kernel_rfl
theorem QgW:Ql F.tb JU 400 SV.1 SV.2.1 SV.2.2.1=some (SV.2.2.2.1,SV.2.2.2.2):=by kernel_rfl
theorem QgX:Ql F.tb JV 400 SW.1 SW.2.1 SW.2.2.1=some (SW.2.2.2.1,SW.2.2.2.2):=by kernel_rfl
theorem QgY:Ql F.tb JW 400 SX.1 SX.2.1 SX.2.2.1=some (SX.2.2.2.1,SX.2.2.2.2):=by kernel_rfl
theorem QgZ:Ql F.tb JX 400 SY.1 SY.2.1 SY.2.2.1=some (SY.2.2.2.1,SY.2.2.2.2):=by kernel_rfl
end Go.Am
