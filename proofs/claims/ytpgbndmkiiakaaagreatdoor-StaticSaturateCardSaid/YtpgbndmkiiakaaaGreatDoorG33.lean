/-
  ScM6.
-/
import Derived.Test.YtpgbndmkiiakaaaGreatDoorG26
set_option linter.unusedVariables false
set_option linter.unusedSimpArgs false
namespace Go.Am
theorem QiY:Qn F.tb I0 400 RV.1 RV.2.1 RV.2.2.1=some (RV.2.2.2.1,RV.2.2.2.2):=by kernel_rfl
theorem QiZ:Qn F.tb I1 400 RW.1 RW.2.1 RW.2.2.1=some (RW.2.2.2.1,RW.2.2.2.2):=by kernel_rfl
theorem Qi0:Qn F.tb I2 400 RX.1 RX.2.1 RX.2.2.1=some (RX.2.2.2.1,RX.2.2.2.2):=by kernel_rfl
theorem Qi1:Qn F.tb I3 400 RY.1 RY.2.1 RY.2.2.1=some (RY.2.2.2.1,RY.2.2.2.2):=by kernel_rfl
theorem Qi2:Qn F.tb I4 400 RZ.1 RZ.2.1 RZ.2.2.1=some (RZ.2.2.2.1,RZ.2.2.2.2):=by kernel_rfl
theorem Qi3:Qn F.tb I5 400 R0.1 R0.2.1 R0.2.2.1=some (R0.2.2.2.1,R0.2.2.2.2):=by kernel_rfl
theorem Qi4:Qn F.tb I6 400 R1.1 R1.2.1 R1.2.2.1=some (R1.2.2.2.1,R1.2.2.2.2):=by kernel_rfl
theorem Qi5:Qn F.tb I7 400 R2.1 R2.2.1 R2.2.2.1=some (R2.2.2.2.1,R2.2.2.2.2):=by kernel_rfl
end Go.Am
