/-
  KnN0.
-/
import Derived.Test.YthlnfdbbneaelaaGreatDoorG27
set_option linter.all false
open Go.Am.F
namespace Go.Am
def Qvc:Yi tb QeE QeH=some QeH.2.2.2:=by kernel_rfl
def Qvd:Yi tb Qnd QeI=some QeI.2.2.2:=by kernel_rfl
def Qve:Yi tb Qne QeJ=some QeJ.2.2.2:=by kernel_rfl
def Qvf:Yi tb Qnf QeK=some QeK.2.2.2:=by kernel_rfl
end Go.Am
