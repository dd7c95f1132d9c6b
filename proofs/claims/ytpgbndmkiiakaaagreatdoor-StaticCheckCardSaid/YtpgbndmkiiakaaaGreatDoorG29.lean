/-
  ScM4.
-/
import Derived.Test.YtpgbndmkiiakaaaGreatDoorG24
set_option linter.unusedVariables false
set_option linter.unusedSimpArgs false
namespace Go.Am
theorem QgK:Ql F.tb JI 400 SI.1 SI.2.1 SI.2.2.1=some (SI.2.2.2.1,SI.2.2.2.2):=by kernel_rfl
theorem QgL:Ql F.tb JJ 400 SJ.1 SJ.2.1 SJ.2.2.1=some (SJ.2.2.2.1,SJ.2.2.2.2):=by kernel_rfl
theorem QgM:Ql F.tb JK 400 SL.1 SL.2.1 SL.2.2.1=some (SL.2.2.2.1,SL.2.2.2.2):=by kernel_rfl
theorem QgN:Ql F.tb JL 400 SM.1 SM.2.1 SM.2.2.1=some (SM.2.2.2.1,SM.2.2.2.2):=by kernel_rfl
theorem QgO:Ql F.tb JM 400 SN.1 SN.2.1 SN.2.2.1=some (SN.2.2.2.1,SN.2.2.2.2):=by kernel_rfl
theorem QgP:Ql F.tb JN 400 SO.1 SO.2.1 SO.2.2.1=some (SO.2.2.2.1,SO.2.2.2.2):=by kernel_rfl
theorem QgQ:Ql F.tb JO 400 SP.1 SP.2.1 SP.2.2.1=some (SP.2.2.2.1,SP.2.2.2.2):=by kernel_rfl
theorem QgR:Ql F.tb JP 400 SQ.1 SQ.2.1 SQ.2.2.1=some (SQ.2.2.2.1,SQ.2.2.2.2):=by kernel_rfl
end Go.Am
