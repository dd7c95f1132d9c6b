/-
  PfM11.
-/
import Derived.Test.YtmlbinmlblbfgaaGreatDoorG22
set_option linter.all false
open Go.Am.F
namespace Go.Am
def Qe1:QQ tb DE K0=some K0.2.2.2:=by kernel_rfl
def Qe2:QQ tb DG K1=some K1.2.2.2:=by kernel_rfl
def Qe3:QQ tb DH K2=some K2.2.2.2:=by kernel_rfl
def Qe4:QQ tb DI K3=some K3.2.2.2:=by kernel_rfl
def Qe5:QQ tb DJ K4=some K4.2.2.2:=by kernel_rfl
def Qe6:QQ tb DK K5=some K5.2.2.2:=by kernel_rfl
end Go.Am
