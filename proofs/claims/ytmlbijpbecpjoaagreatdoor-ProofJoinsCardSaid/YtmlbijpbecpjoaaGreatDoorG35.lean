/-
  PfM8.
-/
import Derived.Test.YtmlbijpbecpjoaaGreatDoorG26
set_option linter.all false
open Go.Am.F
namespace Go.Am
def Qku:Q6 tb Qbv GN=some GN.2.2.2:=by kernel_rfl
def Qkv:Q6 tb Qbw GO=some GO.2.2.2:=by kernel_rfl
def Qkw:Q6 tb Qbx GP=some GP.2.2.2:=by kernel_rfl
def Qkx:Q6 tb Qby GQ=some GQ.2.2.2:=by kernel_rfl
def Qky:Q6 tb Qbz GR=some GR.2.2.2:=by kernel_rfl
def Qkz:Q6 tb QbA GS=some GS.2.2.2:=by kernel_rfl
end Go.Am
