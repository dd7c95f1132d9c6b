/-
  PfM7.
-/
import Derived.Test.YtmlbinmlblbfgaaGreatDoorG22
set_option linter.all false
open Go.Am.F
namespace Go.Am
def QeD:QQ tb Df KC=some KC.2.2.2:=by kernel_rfl
def QeE:QQ tb Dg KD=some KD.2.2.2:=by kernel_rfl
def QeF:QQ tb Dh KE=some KE.2.2.2:=by kernel_rfl
def QeG:QQ tb Di KF=some KF.2.2.2:=by kernel_rfl
def QeH:QQ tb Dj KG=some KG.2.2.2:=by kernel_rfl
def QeI:QQ tb Dk KH=some KH.2.2.2:=by kernel_rfl
end Go.Am
