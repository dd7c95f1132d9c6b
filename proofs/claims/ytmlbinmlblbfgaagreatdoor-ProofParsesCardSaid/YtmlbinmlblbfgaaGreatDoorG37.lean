/-
  PfM14.
-/
import Derived.Test.YtmlbinmlblbfgaaGreatDoorG22
set_option linter.all false
open Go.Am.F
namespace Go.Am
def Qfj:QQ tb D0 Ji=some Ji.2.2.2:=by kernel_rfl
def Qfk:QQ tb D1 Jj=some Jj.2.2.2:=by kernel_rfl
def Qfl:QQ tb D2 Jk=some Jk.2.2.2:=by kernel_rfl
def Qfm:QQ tb D3 Jl=some Jl.2.2.2:=by kernel_rfl
def Qfn:QQ tb D4 Jm=some Jm.2.2.2:=by kernel_rfl
def Qfo:QQ tb D5 Jn=some Jn.2.2.2:=by kernel_rfl
end Go.Am
