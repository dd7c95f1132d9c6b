/-
  KnN4.
-/
import Derived.Test.YtiibekjjcelboaaGreatDoorG25
set_option linter.unusedVariables false
set_option linter.unusedSimpArgs false
namespace Go.Am
theorem Qe0:QQ F.tb Ka 400 Sm.1 Sm.2.1 Sm.2.2.1=some (Sm.2.2.2.1,Sm.2.2.2.2):=by kernel_rfl
theorem Qe1:QQ F.tb Kb 400 Sn.1 Sn.2.1 Sn.2.2.1=some (Sn.2.2.2.1,Sn.2.2.2.2):=by kernel_rfl
theorem Qe2:QQ F.tb Kc 400 So.1 So.2.1 So.2.2.1=some (So.2.2.2.1,So.2.2.2.2):=by kernel_rfl
theorem Qe3:QQ F.tb Kd 400 Sq.1 Sq.2.1 Sq.2.2.1=some (Sq.2.2.2.1,Sq.2.2.2.2):=by kernel_rfl
end Go.Am
