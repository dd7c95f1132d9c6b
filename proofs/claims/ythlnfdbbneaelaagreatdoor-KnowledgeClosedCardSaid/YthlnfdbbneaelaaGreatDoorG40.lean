/-
  KnN12.
-/
import Derived.Test.YthlnfdbbneaelaaGreatDoorG27
set_option linter.all false
open Go.Am.F
namespace Go.Am
def Qsb:Yi tb Qhm C2=some C2.2.2.2:=by kernel_rfl
def Qsc:Yi tb Qhn C3=some C3.2.2.2:=by kernel_rfl
def Qsd:Yi tb Qho C4=some C4.2.2.2:=by kernel_rfl
def Qse:Yi tb Qhp C5=some C5.2.2.2:=by kernel_rfl
end Go.Am
