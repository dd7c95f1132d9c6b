/-
  PfM6.
-/
import Derived.Test.YtmlbijpbecpjoaaGreatDoorG26
set_option linter.all false
open Go.Am.F
namespace Go.Am
def Qki:Q6 tb Qbj GB=some GB.2.2.2:=by kernel_rfl
def Qkj:Q6 tb Qbk GC=some GC.2.2.2:=by kernel_rfl
def Qkk:Q6 tb Qbl GD=some GD.2.2.2:=by kernel_rfl
def Qkl:Q6 tb Qbm GE=some GE.2.2.2:=by kernel_rfl
def Qkm:Q6 tb Qbn GF=some GF.2.2.2:=by kernel_rfl
def Qkn:Q6 tb Qbo GG=some GG.2.2.2:=by kernel_rfl
end Go.Am
