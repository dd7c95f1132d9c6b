/-
  PfM8.
-/
import Derived.Test.YtmlbinmlblbfgaaGreatDoorG22
set_option linter.all false
open Go.Am.F
namespace Go.Am
def QeJ:QQ tb Dl KI=some KI.2.2.2:=by kernel_rfl
def QeK:QQ tb Dm KJ=some KJ.2.2.2:=by kernel_rfl
def QeL:QQ tb Dn KK=some KK.2.2.2:=by kernel_rfl
def QeM:QQ tb Do KL=some KL.2.2.2:=by kernel_rfl
def QeN:QQ tb Dp KM=some KM.2.2.2:=by kernel_rfl
def QeO:QQ tb Dq KN=some KN.2.2.2:=by kernel_rfl
end Go.Am
