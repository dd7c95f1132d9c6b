/-
  KnN3.
-/
import Derived.Test.YtiibekjjcelboaaGreatDoorG25
set_option linter.unusedVariables false
set_option linter.unusedSimpArgs false
namespace Go.Am
theorem QeW:QQ F.tb L6 400 Si.1 Si.2.1 Si.2.2.1=some (Si.2.2.2.1,Si.2.2.2.2):=by kernel_rfl
theorem QeX:QQ F.tb L7 400 Sj.1 Sj.2.1 Sj.2.2.1=some (Sj.2.2.2.1,Sj.2.2.2.2):=by kernel_rfl
theorem QeY:QQ F.tb L8 400 Sk.1 Sk.2.1 Sk.2.2.1=some (Sk.2.2.2.1,Sk.2.2.2.2):=by kernel_rfl
theorem QeZ:QQ F.tb L9 400 Sl.1 Sl.2.1 Sl.2.2.1=some (Sl.2.2.2.1,Sl.2.2.2.2):=by kernel_rfl
end Go.Am
