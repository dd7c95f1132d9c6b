/-
  PfM2.
-/
import Derived.Test.YtmlbinmlblbfgaaGreatDoorG22
set_option linter.all false
open Go.Am.F
namespace Go.Am
def Qd9:QQ tb EI L7=some L7.2.2.2:=by kernel_rfl
def Qea:QQ tb EK L8=some L8.2.2.2:=by kernel_rfl
def Qeb:QQ tb EL L9=some L9.2.2.2:=by kernel_rfl
def Qec:QQ tb EM Ka=some Ka.2.2.2:=by kernel_rfl
def Qed:QQ tb EN Kb=some Kb.2.2.2:=by kernel_rfl
def Qee:QQ tb EO Kc=some Kc.2.2.2:=by kernel_rfl
end Go.Am
