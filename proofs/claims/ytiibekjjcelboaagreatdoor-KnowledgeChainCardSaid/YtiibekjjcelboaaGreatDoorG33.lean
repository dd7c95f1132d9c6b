/-
  KnN7.
-/
import Derived.Test.YtiibekjjcelboaaGreatDoorG25
set_option linter.unusedVariables false
set_option linter.unusedSimpArgs false
namespace Go.Am
theorem Qfc:QQ F.tb Km 400 SB.1 SB.2.1 SB.2.2.1=some (SB.2.2.2.1,SB.2.2.2.2):=by kernel_rfl
theorem Qfd:QQ F.tb Ko 400 SC.1 SC.2.1 SC.2.2.1=some (SC.2.2.2.1,SC.2.2.2.2):=by kernel_rfl
theorem Qfe:QQ F.tb Kp 400 SD.1 SD.2.1 SD.2.2.1=some (SD.2.2.2.1,SD.2.2.2.2):=by kernel_rfl
theorem Qff:QQ F.tb Kq 400 SE.1 SE.2.1 SE.2.2.1=some (SE.2.2.2.1,SE.2.2.2.2):=by kernel_rfl
end Go.Am
