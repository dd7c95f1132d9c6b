/-
  KnN2.
-/
import Derived.Test.YthlnfdbbneaelaaGreatDoorG27
set_option linter.all false
open Go.Am.F
namespace Go.Am
def Qvk:Yi tb Qnk QeP=some QeP.2.2.2:=by kernel_rfl
def Qvl:Yi tb Qnl QeQ=some QeQ.2.2.2:=by kernel_rfl
def Qrz:Yi tb QgK Co=some Co.2.2.2:=by kernel_rfl
def QrA:Yi tb QgL Cp=some Cp.2.2.2:=by kernel_rfl
end Go.Am
