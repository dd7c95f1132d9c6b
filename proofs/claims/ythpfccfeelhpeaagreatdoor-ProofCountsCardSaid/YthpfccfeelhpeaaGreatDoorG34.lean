/-
  PfM15.
-/
import Derived.Test.YthpfccfeelhpeaaGreatDoorG18
set_option linter.all false
open Go.Am.F
namespace Go.Am
def AE:QD tb HE Mv=some Mv.2.2.2:=by kernel_rfl
end Go.Am
