/-
  EnM4.
-/
import Derived.Test.YtpdmcibimbjknaaGreatDoorG25
set_option linter.unusedVariables false
set_option linter.unusedSimpArgs false
namespace Go.Am
theorem Qfu:Qs F.tb KY 400 SF.1 SF.2.1 SF.2.2.1=some (SF.2.2.2.1,SF.2.2.2.2):=by kernel_rfl
theorem Qfv:Qs F.tb KZ 400 SG.1 SG.2.1 SG.2.2.1=some (SG.2.2.2.1,SG.2.2.2.2):=by kernel_rfl
theorem Qfw:Qs F.tb K0 400 SH.1 SH.2.1 SH.2.2.1=some (SH.2.2.2.1,SH.2.2.2.2):=by kernel_rfl
theorem Qfx:Qs F.tb K1 400 SI.1 SI.2.1 SI.2.2.1=some (SI.2.2.2.1,SI.2.2.2.2):=by kernel_rfl
theorem Qfy:Qs F.tb K2 400 SJ.1 SJ.2.1 SJ.2.2.1=some (SJ.2.2.2.1,SJ.2.2.2.2):=by kernel_rfl
theorem Qfz:Qs F.tb K3 400 SK.1 SK.2.1 SK.2.2.1=some (SK.2.2.2.1,SK.2.2.2.2):=by kernel_rfl
theorem QfA:Qs F.tb K4 400 SL.1 SL.2.1 SL.2.2.1=some (SL.2.2.2.1,SL.2.2.2.2):=by kernel_rfl
theorem QfB:Qs F.tb K5 400 SM.1 SM.2.1 SM.2.2.1=some (SM.2.2.2.1,SM.2.2.2.2):=by kernel_rfl
end Go.Am
