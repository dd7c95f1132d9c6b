/-
  PfM10.
-/
import Derived.Test.YtmlbinmlblbfgaaGreatDoorG22
set_option linter.all false
open Go.Am.F
namespace Go.Am
def QeV:QQ tb Dy KU=some KU.2.2.2:=by kernel_rfl
def QeW:QQ tb Dz KV=some KV.2.2.2:=by kernel_rfl
def QeX:QQ tb DA KW=some KW.2.2.2:=by kernel_rfl
def QeY:QQ tb DB KX=some KX.2.2.2:=by kernel_rfl
def QeZ:QQ tb DC KY=some KY.2.2.2:=by kernel_rfl
def Qe0:QQ tb DD KZ=some KZ.2.2.2:=by kernel_rfl
end Go.Am
