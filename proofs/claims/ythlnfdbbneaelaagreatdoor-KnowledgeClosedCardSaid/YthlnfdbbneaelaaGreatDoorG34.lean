/-
  KnN6.
-/
import Derived.Test.YthlnfdbbneaelaaGreatDoorG27
set_option linter.all false
open Go.Am.F
namespace Go.Am
def QrN:Yi tb QgY CD=some CD.2.2.2:=by kernel_rfl
def QrO:Yi tb QgZ CE=some CE.2.2.2:=by kernel_rfl
def QrP:Yi tb Qg0 CF=some CF.2.2.2:=by kernel_rfl
def QrQ:Yi tb Qg1 CG=some CG.2.2.2:=by kernel_rfl
end Go.Am
