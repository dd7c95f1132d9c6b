/-
  PfM12.
-/
import Derived.Test.YtmlbinmlblbfgaaGreatDoorG22
set_option linter.all false
open Go.Am.F
namespace Go.Am
def Qe7:QQ tb DL K6=some K6.2.2.2:=by kernel_rfl
def Qe8:QQ tb DM K7=some K7.2.2.2:=by kernel_rfl
def Qe9:QQ tb DN K8=some K8.2.2.2:=by kernel_rfl
def Qfa:QQ tb DO K9=some K9.2.2.2:=by kernel_rfl
def Qfb:QQ tb DP Ja=some Ja.2.2.2:=by kernel_rfl
def Qfc:QQ tb DQ Jb=some Jb.2.2.2:=by kernel_rfl
end Go.Am
