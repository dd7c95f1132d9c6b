/-
  PfM0.
-/
import Derived.Test.YthagbooipdejlaaGreatDoorG26
set_option linter.all false
open Go.Am.F
namespace Go.Am
def QoZ:Q3 tb AA AE=some AE.2.2.2:=by kernel_rfl
def Qo0:Q3 tb Qg2 AF=some AF.2.2.2:=by kernel_rfl
def Qo1:Q3 tb Qg3 AG=some AG.2.2.2:=by kernel_rfl
def Qo2:Q3 tb Qg4 AH=some AH.2.2.2:=by kernel_rfl
def Qo3:Q3 tb Qg5 AJ=some AJ.2.2.2:=by kernel_rfl
def Qo4:Q3 tb Qg6 AK=some AK.2.2.2:=by kernel_rfl
end Go.Am
