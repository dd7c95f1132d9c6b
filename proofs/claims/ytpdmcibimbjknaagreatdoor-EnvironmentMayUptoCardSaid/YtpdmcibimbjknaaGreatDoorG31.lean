/-
  EnM5.
-/
import Derived.Test.YtpdmcibimbjknaaGreatDoorG25
set_option linter.unusedVariables false
set_option linter.unusedSimpArgs false
namespace Go.Am
theorem QfC:Qs F.tb K6 400 SN.1 SN.2.1 SN.2.2.1=some (SN.2.2.2.1,SN.2.2.2.2):=by kernel_rfl
theorem QfD:Qs F.tb K7 400 SO.1 SO.2.1 SO.2.2.1=some (SO.2.2.2.1,SO.2.2.2.2):=by kernel_rfl
theorem QfE:Qs F.tb K8 400 SP.1 SP.2.1 SP.2.2.1=some (SP.2.2.2.1,SP.2.2.2.2):=by kernel_rfl
theorem QfF:Qs F.tb K9 400 SQ.1 SQ.2.1 SQ.2.2.1=some (SQ.2.2.2.1,SQ.2.2.2.2):=by kernel_rfl
theorem QfG:Qs F.tb Ja 400 SR.1 SR.2.1 SR.2.2.1=some (SR.2.2.2.1,SR.2.2.2.2):=by kernel_rfl
theorem QfH:Qs F.tb Jb 400 SS.1 SS.2.1 SS.2.2.1=some (SS.2.2.2.1,SS.2.2.2.2):=by kernel_rfl
theorem QfI:Qs F.tb Jc 400 ST.1 ST.2.1 ST.2.2.1=some (ST.2.2.2.1,ST.2.2.2.2):=by kernel_rfl
theorem QfJ:Qs F.tb Jd 400 SU.1 SU.2.1 SU.2.2.1=some (SU.2.2.2.1,SU.2.2.2.2):=by kernel_rfl
end Go.Am
