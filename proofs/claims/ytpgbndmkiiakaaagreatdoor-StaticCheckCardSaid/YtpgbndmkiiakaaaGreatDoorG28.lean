/-
  ScM3.
-/
import Derived.Test.YtpgbndmkiiakaaaGreatDoorG24
set_option linter.unusedVariables false
set_option linter.unusedSimpArgs false
namespace Go.Am
theorem QgC:Ql F.tb JA 400 SA.1 SA.2.1 SA.2.2.1=some (SA.2.2.2.1,SA.2.2.2.2):=by kernel_rfl
theorem QgD:Ql F.tb JB 400 SB.1 SB.2.1 SB.2.2.1=some (SB.2.2.2.1,SB.2.2.2.2):=by kernel_rfl
theorem QgE:Ql F.tb JC 400 SC.1 SC.2.1 SC.2.2.1=some (SC.2.2.2.1,SC.2.2.2.2):=by kernel_rfl
theorem QgF:Ql F.tb JD 400 SD.1 SD.2.1 SD.2.2.1=some (SD.2.2.2.1,SD.2.2.2.2):=by kernel_rfl
theorem QgG:Ql F.tb JE 400 SE.1 SE.2.1 SE.2.2.1=some (SE.2.2.2.1,SE.2.2.2.2):=by kernel_rfl
theorem QgH:Ql F.tb JF 400 SF.1 SF.2.1 SF.2.2.1=some (SF.2.2.2.1,SF.2.2.2.2):=by kernel_rfl
theorem QgI:Ql F.tb JG 400 SG.1 SG.2.1 SG.2.2.1=some (SG.2.2.2.1,SG.2.2.2.2):=by kernel_rfl
theorem QgJ:Ql F.tb JH 400 SH.1 SH.2.1 SH.2.2.1=some (SH.2.2.2.1,SH.2.2.2.2):=by kernel_rfl
end Go.Am
