/-
  ScM15.
-/
import Derived.Test.YtpgbndmkiiakaaaGreatDoorG27
set_option linter.unusedVariables false
set_option linter.unusedSimpArgs false
namespace Go.Am
theorem QhH:Qn F.tb JX 400 SA.1 SA.2.1 SA.2.2.1=some (SA.2.2.2.1,SA.2.2.2.2):=by kernel_rfl
theorem QhI:Qn F.tb JY 400 SB.1 SB.2.1 SB.2.2.1=some (SB.2.2.2.1,SB.2.2.2.2):=by kernel_rfl
theorem QhJ:Qn F.tb JZ 400 SC.1 SC.2.1 SC.2.2.1=some (SC.2.2.2.1,SC.2.2.2.2):=by kernel_rfl
theorem QhK:Qn F.tb J0 400 SD.1 SD.2.1 SD.2.2.1=some (SD.2.2.2.1,SD.2.2.2.2):=by kernel_rfl
theorem QhL:Qn F.tb J1 400 SE.1 SE.2.1 SE.2.2.1=some (SE.2.2.2.1,SE.2.2.2.2):=by kernel_rfl
theorem QhM:Qn F.tb J2 400 SF.1 SF.2.1 SF.2.2.1=some (SF.2.2.2.1,SF.2.2.2.2):=by kernel_rfl
theorem QhN:Qn F.tb J3 400 SG.1 SG.2.1 SG.2.2.1=some (SG.2.2.2.1,SG.2.2.2.2):=by kernel_rfl
theorem QhO:Qn F.tb J4 400 SH.1 SH.2.1 SH.2.2.1=some (SH.2.2.2.1,SH.2.2.2.2):=by kernel_rfl
end Go.Am
