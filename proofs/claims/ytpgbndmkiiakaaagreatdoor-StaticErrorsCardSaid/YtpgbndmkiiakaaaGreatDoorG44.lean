/-
  ScM16.
-/
import Derived.Test.YtpgbndmkiiakaaaGreatDoorG27
set_option linter.unusedVariables false
set_option linter.unusedSimpArgs false
namespace Go.Am
theorem QhP:Qn F.tb J5 400 SI.1 SI.2.1 SI.2.2.1=some (SI.2.2.2.1,SI.2.2.2.2):=by kernel_rfl
theorem QhQ:Qn F.tb J6 400 SJ.1 SJ.2.1 SJ.2.2.1=some (SJ.2.2.2.1,SJ.2.2.2.2):=by kernel_rfl
theorem QhR:Qn F.tb J7 400 SL.1 SL.2.1 SL.2.2.1=some (SL.2.2.2.1,SL.2.2.2.2):=by kernel_rfl
theorem QhS:Qn F.tb J8 400 SM.1 SM.2.1 SM.2.2.1=some (SM.2.2.2.1,SM.2.2.2.2):=by kernel_rfl
theorem QhT:Qn F.tb J9 400 SN.1 SN.2.1 SN.2.2.1=some (SN.2.2.2.1,SN.2.2.2.2):=by kernel_rfl
theorem QhU:Qn F.tb Ia 400 SO.1 SO.2.1 SO.2.2.1=some (SO.2.2.2.1,SO.2.2.2.2):=by kernel_rfl
theorem QhV:Qn F.tb Ib 400 SP.1 SP.2.1 SP.2.2.1=some (SP.2.2.2.1,SP.2.2.2.2):=by kernel_rfl
theorem QhW:Qn F.tb Ic 400 SQ.1 SQ.2.1 SQ.2.2.1=some (SQ.2.2.2.1,SQ.2.2.2.2):=by kernel_rfl
end Go.Am
