/-
  PfM13.
-/
import Derived.Test.YthagbooipdejlaaGreatDoorG26
set_option linter.all false
open Go.Am.F
namespace Go.Am
def QlQ:Q3 tb Qcy FL=some FL.2.2.2:=by kernel_rfl
def QlR:Q3 tb Qcz FM=some FM.2.2.2:=by kernel_rfl
def QlS:Q3 tb QcA FN=some FN.2.2.2:=by kernel_rfl
def QlT:Q3 tb QcB FO=some FO.2.2.2:=by kernel_rfl
def QlU:Q3 tb QcC FP=some FP.2.2.2:=by kernel_rfl
def QlV:Q3 tb QcD FQ=some FQ.2.2.2:=by kernel_rfl
end Go.Am
