/-
  EnM8.
-/
import Derived.Test.YtkikjgionglgaaaGreatDoorG23
set_option linter.unusedVariables false
set_option linter.unusedSimpArgs false
namespace Go.Am
theorem Qed:Qq F.tb KA 400 SE.1 SE.2.1 SE.2.2.1=some (SE.2.2.2.1,SE.2.2.2.2):=by kernel_rfl
theorem Qee:Qq F.tb KB 400 SF.1 SF.2.1 SF.2.2.1=some (SF.2.2.2.1,SF.2.2.2.2):=by kernel_rfl
theorem Qef:Qq F.tb KC 400 SG.1 SG.2.1 SG.2.2.1=some (SG.2.2.2.1,SG.2.2.2.2):=by kernel_rfl
theorem Qeg:Qq F.tb KD 400 SH.1 SH.2.1 SH.2.2.1=some (SH.2.2.2.1,SH.2.2.2.2):=by kernel_rfl
theorem Qeh:Qq F.tb KE 400 SI.1 SI.2.1 SI.2.2.1=some (SI.2.2.2.1,SI.2.2.2.2):=by kernel_rfl
theorem Qei:Qq F.tb KF 400 SJ.1 SJ.2.1 SJ.2.2.1=some (SJ.2.2.2.1,SJ.2.2.2.2):=by kernel_rfl
theorem Qej:Qq F.tb KH 400 SK.1 SK.2.1 SK.2.2.1=some (SK.2.2.2.1,SK.2.2.2.2):=by kernel_rfl
theorem Qek:Qq F.tb KI 400 SL.1 SL.2.1 SL.2.2.1=some (SL.2.2.2.1,SL.2.2.2.2):=by kernel_rfl
end Go.Am
