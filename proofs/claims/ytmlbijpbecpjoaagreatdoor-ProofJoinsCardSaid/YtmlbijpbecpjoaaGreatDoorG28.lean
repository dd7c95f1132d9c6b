/-
  PfM1.
-/
import Derived.Test.YtmlbijpbecpjoaaGreatDoorG26
set_option linter.all false
open Go.Am.F
namespace Go.Am
def Qn4:Q6 tb Qgr Aa=some Aa.2.2.2:=by kernel_rfl
def Qn5:Q6 tb Qgs Ab=some Ab.2.2.2:=by kernel_rfl
def Qn6:Q6 tb Qgt Ac=some Ac.2.2.2:=by kernel_rfl
def Qn7:Q6 tb Qgu Ad=some Ad.2.2.2:=by kernel_rfl
def QjS:Q6 tb QaT H8=some H8.2.2.2:=by kernel_rfl
def QjT:Q6 tb QaU H9=some H9.2.2.2:=by kernel_rfl
end Go.Am
