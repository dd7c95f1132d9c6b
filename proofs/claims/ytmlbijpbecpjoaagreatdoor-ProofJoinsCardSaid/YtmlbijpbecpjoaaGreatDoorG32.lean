/-
  PfM5.
-/
import Derived.Test.YtmlbijpbecpjoaaGreatDoorG26
set_option linter.all false
open Go.Am.F
namespace Go.Am
def Qkc:Q6 tb Qbd Gv=some Gv.2.2.2:=by kernel_rfl
def Qkd:Q6 tb Qbe Gw=some Gw.2.2.2:=by kernel_rfl
def Qke:Q6 tb Qbf Gx=some Gx.2.2.2:=by kernel_rfl
def Qkf:Q6 tb Qbg Gy=some Gy.2.2.2:=by kernel_rfl
def Qkg:Q6 tb Qbh Gz=some Gz.2.2.2:=by kernel_rfl
def Qkh:Q6 tb Qbi GA=some GA.2.2.2:=by kernel_rfl
end Go.Am
