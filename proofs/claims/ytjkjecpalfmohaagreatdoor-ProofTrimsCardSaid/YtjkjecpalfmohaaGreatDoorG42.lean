/-
  PfM15.
-/
import Derived.Test.YtjkjecpalfmohaaGreatDoorG26
set_option linter.all false
open Go.Am.F
namespace Go.Am
def Qm2:Q6 tb Qdr EB=some EB.2.2.2:=by kernel_rfl
end Go.Am
