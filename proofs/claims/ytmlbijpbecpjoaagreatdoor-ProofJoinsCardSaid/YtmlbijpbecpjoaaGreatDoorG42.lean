/-
  PfM15.
-/
import Derived.Test.YtmlbijpbecpjoaaGreatDoorG26
set_option linter.all false
open Go.Am.F
namespace Go.Am
def Qla:Q6 tb Qcb Fv=some Fv.2.2.2:=by kernel_rfl
end Go.Am
