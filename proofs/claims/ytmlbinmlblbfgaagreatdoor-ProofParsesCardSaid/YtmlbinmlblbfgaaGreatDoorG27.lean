/-
  PfM4.
-/
import Derived.Test.YtmlbinmlblbfgaaGreatDoorG22
set_option linter.all false
open Go.Am.F
namespace Go.Am
def Qel:QQ tb EW Kj=some Kj.2.2.2:=by kernel_rfl
def Qem:QQ tb EX Kk=some Kk.2.2.2:=by kernel_rfl
def Qen:QQ tb EY Kl=some Kl.2.2.2:=by kernel_rfl
def Qeo:QQ tb EZ Km=some Km.2.2.2:=by kernel_rfl
def Qep:QQ tb E0 Ko=some Ko.2.2.2:=by kernel_rfl
def Qeq:QQ tb E1 Kp=some Kp.2.2.2:=by kernel_rfl
end Go.Am
