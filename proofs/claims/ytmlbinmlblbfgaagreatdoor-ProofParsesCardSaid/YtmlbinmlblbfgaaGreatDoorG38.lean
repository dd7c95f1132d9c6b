/-
  PfM15.
-/
import Derived.Test.YtmlbinmlblbfgaaGreatDoorG22
set_option linter.all false
open Go.Am.F
namespace Go.Am
def Qfp:QQ tb D6 Jo=some Jo.2.2.2:=by kernel_rfl
end Go.Am
