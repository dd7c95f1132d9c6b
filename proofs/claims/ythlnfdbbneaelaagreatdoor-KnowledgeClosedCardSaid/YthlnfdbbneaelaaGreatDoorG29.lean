/-
  KnN1.
-/
import Derived.Test.YthlnfdbbneaelaaGreatDoorG27
set_option linter.all false
open Go.Am.F
namespace Go.Am
def Qvg:Yi tb Qng QeL=some QeL.2.2.2:=by kernel_rfl
def Qvh:Yi tb Qnh QeM=some QeM.2.2.2:=by kernel_rfl
def Qvi:Yi tb Qni QeN=some QeN.2.2.2:=by kernel_rfl
def Qvj:Yi tb Qnj QeO=some QeO.2.2.2:=by kernel_rfl
end Go.Am
