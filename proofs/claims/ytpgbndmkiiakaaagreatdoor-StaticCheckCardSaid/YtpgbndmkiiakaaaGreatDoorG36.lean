/-
  ScM11.
-/
import Derived.Test.YtpgbndmkiiakaaaGreatDoorG24
set_option linter.unusedVariables false
set_option linter.unusedSimpArgs false
namespace Go.Am
theorem QhE:Ql F.tb IE 400 RD.1 RD.2.1 RD.2.2.1=some (RD.2.2.2.1,RD.2.2.2.2):=by kernel_rfl
theorem QhF:Ql F.tb IF 400 RE.1 RE.2.1 RE.2.2.1=some (RE.2.2.2.1,RE.2.2.2.2):=by kernel_rfl
theorem QhG:Ql F.tb IG 400 RF.1 RF.2.1 RF.2.2.1=some (RF.2.2.2.1,RF.2.2.2.2):=by kernel_rfl
theorem QhH:Ql F.tb II 400 RG.1 RG.2.1 RG.2.2.1=some (RG.2.2.2.1,RG.2.2.2.2):=by kernel_rfl
theorem QhI:Ql F.tb IJ 400 RH.1 RH.2.1 RH.2.2.1=some (RH.2.2.2.1,RH.2.2.2.2):=by kernel_rfl
theorem QhJ:Ql F.tb IK 400 RI.1 RI.2.1 RI.2.2.1=some (RI.2.2.2.1,RI.2.2.2.2):=by kernel_rfl
theorem QhK:Ql F.tb IL 400 RJ.1 RJ.2.1 RJ.2.2.1=some (RJ.2.2.2.1,RJ.2.2.2.2):=by kernel_rfl
theorem QhL:Ql F.tb IM 400 RK.1 RK.2.1 RK.2.2.1=some (RK.2.2.2.1,RK.2.2.2.2):=by kernel_rfl
end Go.Am
