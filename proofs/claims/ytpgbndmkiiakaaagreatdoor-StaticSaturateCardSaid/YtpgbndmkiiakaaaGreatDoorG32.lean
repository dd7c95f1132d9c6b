/-
  ScM5.
-/
import Derived.Test.YtpgbndmkiiakaaaGreatDoorG26
set_option linter.unusedVariables false
set_option linter.unusedSimpArgs false
namespace Go.Am
theorem QiQ:Qn F.tb IQ 400 RM.1 RM.2.1 RM.2.2.1=some (RM.2.2.2.1,RM.2.2.2.2):=by kernel_rfl
theorem QiR:Qn F.tb IR 400 RN.1 RN.2.1 RN.2.2.1=some (RN.2.2.2.1,RN.2.2.2.2):=by kernel_rfl
theorem QiS:Qn F.tb IU 400 RO.1 RO.2.1 RO.2.2.1=some (RO.2.2.2.1,RO.2.2.2.2):=by kernel_rfl
theorem QiT:Qn F.tb IV 400 RP.1 RP.2.1 RP.2.2.1=some (RP.2.2.2.1,RP.2.2.2.2):=by kernel_rfl
theorem QiU:Qn F.tb IW 400 RQ.1 RQ.2.1 RQ.2.2.1=some (RQ.2.2.2.1,RQ.2.2.2.2):=by kernel_rfl
theorem QiV:Qn F.tb IX 400 RR.1 RR.2.1 RR.2.2.1=some (RR.2.2.2.1,RR.2.2.2.2):=by kernel_rfl
theorem QiW:Qn F.tb IY 400 RT.1 RT.2.1 RT.2.2.1=some (RT.2.2.2.1,RT.2.2.2.2):=by kernel_rfl
theorem QiX:Qn F.tb IZ 400 RU.1 RU.2.1 RU.2.2.1=some (RU.2.2.2.1,RU.2.2.2.2):=by kernel_rfl
end Go.Am
