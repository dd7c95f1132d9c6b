/-
  PfM0.
-/
import Derived.Test.YtmlbinmlblbfgaaGreatDoorG22
set_option linter.all false
open Go.Am.F
namespace Go.Am
def Qik:QQ tb G3 G6=some G6.2.2.2:=by kernel_rfl
def Qil:QQ tb Qbd G7=some G7.2.2.2:=by kernel_rfl
def Qim:QQ tb Qbe G8=some G8.2.2.2:=by kernel_rfl
def Qin:QQ tb Qbf G9=some G9.2.2.2:=by kernel_rfl
def Qio:QQ tb Qbg Fa=some Fa.2.2.2:=by kernel_rfl
def Qip:QQ tb Qbh Fb=some Fb.2.2.2:=by kernel_rfl
end Go.Am
