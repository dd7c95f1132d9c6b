/-
  ScM12.
-/
import Derived.Test.YtpgbndmkiiakaaaGreatDoorG24
set_option linter.unusedVariables false
set_option linter.unusedSimpArgs false
namespace Go.Am
theorem QhM:Ql F.tb IO 400 RL.1 RL.2.1 RL.2.2.1=some (RL.2.2.2.1,RL.2.2.2.2):=by kernel_rfl
theorem QhN:Ql F.tb IP 400 RM.1 RM.2.1 RM.2.2.1=some (RM.2.2.2.1,RM.2.2.2.2):=by kernel_rfl
theorem QhO:Ql F.tb IQ 400 RN.1 RN.2.1 RN.2.2.1=some (RN.2.2.2.1,RN.2.2.2.2):=by kernel_rfl
theorem QhP:Ql F.tb IR 400 RO.1 RO.2.1 RO.2.2.1=some (RO.2.2.2.1,RO.2.2.2.2):=by kernel_rfl
theorem Qdh:Ql F.tb MW 400 UC.1 UC.2.1 UC.2.2.1=some (UC.2.2.2.1,UC.2.2.2.2):=by kernel_rfl
theorem Qdi:Ql F.tb MY 400 UD.1 UD.2.1 UD.2.2.1=some (UD.2.2.2.1,UD.2.2.2.2):=by kernel_rfl
theorem Qdj:Ql F.tb MZ 400 UE.1 UE.2.1 UE.2.2.1=some (UE.2.2.2.1,UE.2.2.2.2):=by kernel_rfl
theorem Qdk:Ql F.tb M0 400 UF.1 UF.2.1 UF.2.2.1=some (UF.2.2.2.1,UF.2.2.2.2):=by kernel_rfl
end Go.Am
