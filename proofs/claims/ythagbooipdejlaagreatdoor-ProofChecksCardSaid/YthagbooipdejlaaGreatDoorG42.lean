/-
  PfM15.
-/
import Derived.Test.YthagbooipdejlaaGreatDoorG26
set_option linter.all false
open Go.Am.F
namespace Go.Am
def Ql2:Q3 tb QcK FY=some FY.2.2.2:=by kernel_rfl
end Go.Am
