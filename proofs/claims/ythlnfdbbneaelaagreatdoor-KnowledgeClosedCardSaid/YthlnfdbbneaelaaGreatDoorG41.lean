/-
  KnN13.
-/
import Derived.Test.YthlnfdbbneaelaaGreatDoorG27
set_option linter.all false
open Go.Am.F
namespace Go.Am
def Qsf:Yi tb Qhq C6=some C6.2.2.2:=by kernel_rfl
def Qsg:Yi tb Qhr C7=some C7.2.2.2:=by kernel_rfl
def Qsh:Yi tb Qhs C8=some C8.2.2.2:=by kernel_rfl
def Qsi:Yi tb Qht C9=some C9.2.2.2:=by kernel_rfl
end Go.Am
