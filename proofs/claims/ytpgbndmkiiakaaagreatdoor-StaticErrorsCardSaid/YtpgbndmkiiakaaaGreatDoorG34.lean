/-
  ScM6.
-/
import Derived.Test.YtpgbndmkiiakaaaGreatDoorG27
set_option linter.unusedVariables false
set_option linter.unusedSimpArgs false
namespace Go.Am
theorem Qlw:Qn F.tb GU 400 PW.1 PW.2.1 PW.2.2.1=some (PW.2.2.2.1,PW.2.2.2.2):=by kernel_rfl
theorem Qlx:Qn F.tb GV 400 PX.1 PX.2.1 PX.2.2.1=some (PX.2.2.2.1,PX.2.2.2.2):=by kernel_rfl
theorem Qly:Qn F.tb GW 400 PY.1 PY.2.1 PY.2.2.1=some (PY.2.2.2.1,PY.2.2.2.2):=by kernel_rfl
theorem Qlz:Qn F.tb GX 400 PZ.1 PZ.2.1 PZ.2.2.1=some (PZ.2.2.2.1,PZ.2.2.2.2):=by kernel_rfl
theorem QlA:Qn F.tb GY 400 P0.1 P0.2.1 P0.2.2.1=some (P0.2.2.2.1,P0.2.2.2.2):=by kernel_rfl
theorem QlB:Qn F.tb GZ 400 P1.1 P1.2.1 P1.2.2.1=some (P1.2.2.2.1,P1.2.2.2.2):=by kernel_rfl
theorem QlC:Qn F.tb G0 400 P2.1 P2.2.1 P2.2.2.1=some (P2.2.2.2.1,P2.2.2.2.2):=by kernel_rfl
theorem QlD:Qn F.tb G1 400 P3.1 P3.2.1 P3.2.2.1=some (P3.2.2.2.1,P3.2.2.2.2):=by kernel_rfl
end Go.Am
