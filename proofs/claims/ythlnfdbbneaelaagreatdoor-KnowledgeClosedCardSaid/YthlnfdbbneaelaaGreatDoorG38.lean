/-
  KnN10.
-/
import Derived.Test.YthlnfdbbneaelaaGreatDoorG27
set_option linter.all false
open Go.Am.F
namespace Go.Am
def Qr3:Yi tb Qhe CU=some CU.2.2.2:=by kernel_rfl
def Qr4:Yi tb Qhf CV=some CV.2.2.2:=by kernel_rfl
def Qr5:Yi tb Qhg CW=some CW.2.2.2:=by kernel_rfl
def Qr6:Yi tb Qhh CX=some CX.2.2.2:=by kernel_rfl
end Go.Am
