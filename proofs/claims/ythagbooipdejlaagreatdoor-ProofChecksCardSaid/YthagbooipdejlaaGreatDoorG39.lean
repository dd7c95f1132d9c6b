/-
  PfM12.
-/
import Derived.Test.YthagbooipdejlaaGreatDoorG26
set_option linter.all false
open Go.Am.F
namespace Go.Am
def QlK:Q3 tb Qcs FF=some FF.2.2.2:=by kernel_rfl
def QlL:Q3 tb Qct FG=some FG.2.2.2:=by kernel_rfl
def QlM:Q3 tb Qcu FH=some FH.2.2.2:=by kernel_rfl
def QlN:Q3 tb Qcv FI=some FI.2.2.2:=by kernel_rfl
def QlO:Q3 tb Qcw FJ=some FJ.2.2.2:=by kernel_rfl
def QlP:Q3 tb Qcx FK=some FK.2.2.2:=by kernel_rfl
end Go.Am
