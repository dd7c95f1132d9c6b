/-
  PfM1.
-/
import Derived.Test.YtmlbinmlblbfgaaGreatDoorG22
set_option linter.all false
open Go.Am.F
namespace Go.Am
def Qiq:QQ tb Qbi Fc=some Fc.2.2.2:=by kernel_rfl
def Qir:QQ tb Qbj Fe=some Fe.2.2.2:=by kernel_rfl
def Qis:QQ tb Qbk Ff=some Ff.2.2.2:=by kernel_rfl
def Qit:QQ tb Qbl Fg=some Fg.2.2.2:=by kernel_rfl
def Qd7:QQ tb EG L5=some L5.2.2.2:=by kernel_rfl
def Qd8:QQ tb EH L6=some L6.2.2.2:=by kernel_rfl
end Go.Am
