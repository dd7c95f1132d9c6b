/-
  ScM4.
-/
import Derived.Test.YtpgbndmkiiakaaaGreatDoorG26
set_option linter.unusedVariables false
set_option linter.unusedSimpArgs false
namespace Go.Am
theorem QiI:Qn F.tb IG 400 RE.1 RE.2.1 RE.2.2.1=some (RE.2.2.2.1,RE.2.2.2.2):=by kernel_rfl
theorem QiJ:Qn F.tb II 400 RF.1 RF.2.1 RF.2.2.1=some (RF.2.2.2.1,RF.2.2.2.2):=by kernel_rfl
theorem QiK:Qn F.tb IJ 400 RG.1 RG.2.1 RG.2.2.1=some (RG.2.2.2.1,RG.2.2.2.2):=by kernel_rfl
theorem QiL:Qn F.tb IK 400 RH.1 RH.2.1 RH.2.2.1=some (RH.2.2.2.1,RH.2.2.2.2):=by kernel_rfl
theorem QiM:Qn F.tb IL 400 RI.1 RI.2.1 RI.2.2.1=some (RI.2.2.2.1,RI.2.2.2.2):=by kernel_rfl
theorem QiN:Qn F.tb IM 400 RJ.1 RJ.2.1 RJ.2.2.1=some (RJ.2.2.2.1,RJ.2.2.2.2):=by kernel_rfl
theorem QiO:Qn F.tb IO 400 RK.1 RK.2.1 RK.2.2.1=some (RK.2.2.2.1,RK.2.2.2.2):=by kernel_rfl
theorem QiP:Qn F.tb IP 400 RL.1 RL.2.1 RL.2.2.1=some (RL.2.2.2.1,RL.2.2.2.2):=by kernel_rfl
end Go.Am
