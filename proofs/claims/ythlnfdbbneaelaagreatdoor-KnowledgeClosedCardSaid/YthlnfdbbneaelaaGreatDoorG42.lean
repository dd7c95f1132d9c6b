/-
  KnN14.
-/
import Derived.Test.YthlnfdbbneaelaaGreatDoorG27
set_option linter.all false
open Go.Am.F
namespace Go.Am
def Qsj:Yi tb Qhu Ba=some Ba.2.2.2:=by kernel_rfl
def Qsk:Yi tb Qhv Bc=some Bc.2.2.2:=by kernel_rfl
def Qsl:Yi tb Qhw Bd=some Bd.2.2.2:=by kernel_rfl
def Qsm:Yi tb Qhx Be=some Be.2.2.2:=by kernel_rfl
end Go.Am
