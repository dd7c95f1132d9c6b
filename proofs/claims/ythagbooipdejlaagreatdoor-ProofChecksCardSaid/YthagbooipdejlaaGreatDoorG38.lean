/-
  PfM11.
-/
import Derived.Test.YthagbooipdejlaaGreatDoorG26
set_option linter.all false
open Go.Am.F
namespace Go.Am
def QlE:Q3 tb Qcm Fy=some Fy.2.2.2:=by kernel_rfl
def QlF:Q3 tb Qcn Fz=some Fz.2.2.2:=by kernel_rfl
def QlG:Q3 tb Qco FA=some FA.2.2.2:=by kernel_rfl
def QlH:Q3 tb Qcp FB=some FB.2.2.2:=by kernel_rfl
def QlI:Q3 tb Qcq FC=some FC.2.2.2:=by kernel_rfl
def QlJ:Q3 tb Qcr FE=some FE.2.2.2:=by kernel_rfl
end Go.Am
