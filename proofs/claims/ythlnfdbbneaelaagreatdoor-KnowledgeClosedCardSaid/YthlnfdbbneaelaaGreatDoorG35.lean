/-
  KnN7.
-/
import Derived.Test.YthlnfdbbneaelaaGreatDoorG27
set_option linter.all false
open Go.Am.F
namespace Go.Am
def QrR:Yi tb Qg2 CH=some CH.2.2.2:=by kernel_rfl
def QrS:Yi tb Qg3 CI=some CI.2.2.2:=by kernel_rfl
def QrT:Yi tb Qg4 CJ=some CJ.2.2.2:=by kernel_rfl
def QrU:Yi tb Qg5 CK=some CK.2.2.2:=by kernel_rfl
end Go.Am
