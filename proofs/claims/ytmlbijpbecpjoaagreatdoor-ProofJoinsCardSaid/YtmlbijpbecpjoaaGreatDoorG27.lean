/-
  PfM0.
-/
import Derived.Test.YtmlbijpbecpjoaaGreatDoorG26
set_option linter.all false
open Go.Am.F
namespace Go.Am
def QnY:Q6 tb BW B4=some B4.2.2.2:=by kernel_rfl
def QnZ:Q6 tb Qgm B5=some B5.2.2.2:=by kernel_rfl
def Qn0:Q6 tb Qgn B6=some B6.2.2.2:=by kernel_rfl
def Qn1:Q6 tb Qgo B7=some B7.2.2.2:=by kernel_rfl
def Qn2:Q6 tb Qgp B8=some B8.2.2.2:=by kernel_rfl
def Qn3:Q6 tb Qgq B9=some B9.2.2.2:=by kernel_rfl
end Go.Am
