/-
  PfM6.
-/
import Derived.Test.YtmlbinmlblbfgaaGreatDoorG22
set_option linter.all false
open Go.Am.F
namespace Go.Am
def Qex:QQ tb E9 Kw=some Kw.2.2.2:=by kernel_rfl
def Qey:QQ tb Da Kx=some Kx.2.2.2:=by kernel_rfl
def Qez:QQ tb Db Ky=some Ky.2.2.2:=by kernel_rfl
def QeA:QQ tb Dc Kz=some Kz.2.2.2:=by kernel_rfl
def QeB:QQ tb Dd KA=some KA.2.2.2:=by kernel_rfl
def QeC:QQ tb De KB=some KB.2.2.2:=by kernel_rfl
end Go.Am
