/-
  PfM9.
-/
import Derived.Test.YtmlbinmlblbfgaaGreatDoorG22
set_option linter.all false
open Go.Am.F
namespace Go.Am
def QeP:QQ tb Ds KO=some KO.2.2.2:=by kernel_rfl
def QeQ:QQ tb Dt KP=some KP.2.2.2:=by kernel_rfl
def QeR:QQ tb Du KQ=some KQ.2.2.2:=by kernel_rfl
def QeS:QQ tb Dv KR=some KR.2.2.2:=by kernel_rfl
def QeT:QQ tb Dw KS=some KS.2.2.2:=by kernel_rfl
def QeU:QQ tb Dx KT=some KT.2.2.2:=by kernel_rfl
end Go.Am
