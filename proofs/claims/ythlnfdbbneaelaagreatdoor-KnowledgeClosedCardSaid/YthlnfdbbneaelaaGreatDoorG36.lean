/-
  KnN8.
-/
import Derived.Test.YthlnfdbbneaelaaGreatDoorG27
set_option linter.all false
open Go.Am.F
namespace Go.Am
def QrV:Yi tb Qg6 CL=some CL.2.2.2:=by kernel_rfl
def QrW:Yi tb Qg7 CM=some CM.2.2.2:=by kernel_rfl
def QrX:Yi tb Qg8 CN=some CN.2.2.2:=by kernel_rfl
def QrY:Yi tb Qg9 CP=some CP.2.2.2:=by kernel_rfl
end Go.Am
