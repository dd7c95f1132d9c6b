/-
  KnN8.
-/
import Derived.Test.YtiibekjjcelboaaGreatDoorG25
set_option linter.unusedVariables false
set_option linter.unusedSimpArgs false
namespace Go.Am
theorem Qfg:QQ F.tb Kr 400 SF.1 SF.2.1 SF.2.2.1=some (SF.2.2.2.1,SF.2.2.2.2):=by kernel_rfl
theorem Qfh:QQ F.tb Ks 400 SG.1 SG.2.1 SG.2.2.1=some (SG.2.2.2.1,SG.2.2.2.2):=by kernel_rfl
theorem Qfi:QQ F.tb Kt 400 SI.1 SI.2.1 SI.2.2.1=some (SI.2.2.2.1,SI.2.2.2.2):=by kernel_rfl
theorem Qfj:QQ F.tb Ku 400 SJ.1 SJ.2.1 SJ.2.2.1=some (SJ.2.2.2.1,SJ.2.2.2.2):=by kernel_rfl
end Go.Am
