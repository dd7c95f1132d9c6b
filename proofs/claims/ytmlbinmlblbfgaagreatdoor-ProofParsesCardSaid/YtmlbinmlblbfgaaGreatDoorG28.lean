/-
  PfM5.
-/
import Derived.Test.YtmlbinmlblbfgaaGreatDoorG22
set_option linter.all false
open Go.Am.F
namespace Go.Am
def Qer:QQ tb E3 Kq=some Kq.2.2.2:=by kernel_rfl
def Qes:QQ tb E4 Kr=some Kr.2.2.2:=by kernel_rfl
def Qet:QQ tb E5 Ks=some Ks.2.2.2:=by kernel_rfl
def Qeu:QQ tb E6 Kt=some Kt.2.2.2:=by kernel_rfl
def Qev:QQ tb E7 Ku=some Ku.2.2.2:=by kernel_rfl
def Qew:QQ tb E8 Kv=some Kv.2.2.2:=by kernel_rfl
end Go.Am
