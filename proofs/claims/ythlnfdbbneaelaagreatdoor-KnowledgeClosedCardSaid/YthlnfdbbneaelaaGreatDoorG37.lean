/-
  KnN9.
-/
import Derived.Test.YthlnfdbbneaelaaGreatDoorG27
set_option linter.all false
open Go.Am.F
namespace Go.Am
def QrZ:Yi tb Qha CQ=some CQ.2.2.2:=by kernel_rfl
def Qr0:Yi tb Qhb CR=some CR.2.2.2:=by kernel_rfl
def Qr1:Yi tb Qhc CS=some CS.2.2.2:=by kernel_rfl
def Qr2:Yi tb Qhd CT=some CT.2.2.2:=by kernel_rfl
end Go.Am
