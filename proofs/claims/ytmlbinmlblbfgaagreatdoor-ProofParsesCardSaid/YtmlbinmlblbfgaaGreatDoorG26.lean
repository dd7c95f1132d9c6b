/-
  PfM3.
-/
import Derived.Test.YtmlbinmlblbfgaaGreatDoorG22
set_option linter.all false
open Go.Am.F
namespace Go.Am
def Qef:QQ tb EP Kd=some Kd.2.2.2:=by kernel_rfl
def Qeg:QQ tb EQ Ke=some Ke.2.2.2:=by kernel_rfl
def Qeh:QQ tb ER Kf=some Kf.2.2.2:=by kernel_rfl
def Qei:QQ tb ET Kg=some Kg.2.2.2:=by kernel_rfl
def Qej:QQ tb EU Kh=some Kh.2.2.2:=by kernel_rfl
def Qek:QQ tb EV Ki=some Ki.2.2.2:=by kernel_rfl
end Go.Am
