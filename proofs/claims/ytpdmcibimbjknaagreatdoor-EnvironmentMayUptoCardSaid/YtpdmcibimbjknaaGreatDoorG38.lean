/-
  EnM12.
-/
import Derived.Test.YtpdmcibimbjknaaGreatDoorG25
set_option linter.unusedVariables false
set_option linter.unusedSimpArgs false
namespace Go.Am
theorem Qgw:Qs F.tb J0 400 RH.1 RH.2.1 RH.2.2.1=some (RH.2.2.2.1,RH.2.2.2.2):=by kernel_rfl
theorem Qgx:Qs F.tb J1 400 RI.1 RI.2.1 RI.2.2.1=some (RI.2.2.2.1,RI.2.2.2.2):=by kernel_rfl
theorem Qgy:Qs F.tb J2 400 RJ.1 RJ.2.1 RJ.2.2.1=some (RJ.2.2.2.1,RJ.2.2.2.2):=by kernel_rfl
theorem Qgz:Qs F.tb J3 400 RK.1 RK.2.1 RK.2.2.1=some (RK.2.2.2.1,RK.2.2.2.2):=by kernel_rfl
theorem Qcg:Qs F.tb MQ 400 U0.1 U0.2.1 U0.2.2.1=some (U0.2.2.2.1,U0.2.2.2.2):=by kernel_rfl
theorem Qch:Qs F.tb MR 400 U1.1 U1.2.1 U1.2.2.1=some (U1.2.2.2.1,U1.2.2.2.2):=by kernel_rfl
theorem Qci:Qs F.tb MS 400 U2.1 U2.2.1 U2.2.2.1=some (U2.2.2.2.1,U2.2.2.2.2):=by kernel_rfl
theorem Qcj:Qs F.tb MT 400 U3.1 U3.2.1 U3.2.2.1=some (U3.2.2.2.1,U3.2.2.2.2):=by kernel_rfl
end Go.Am
