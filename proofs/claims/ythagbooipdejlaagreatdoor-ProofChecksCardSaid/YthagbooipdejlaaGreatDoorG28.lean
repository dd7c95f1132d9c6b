/-
  PfM1.
-/
import Derived.Test.YthagbooipdejlaaGreatDoorG26
set_option linter.all false
open Go.Am.F
namespace Go.Am
def Qo5:Q3 tb Qg7 AL=some AL.2.2.2:=by kernel_rfl
def Qo6:Q3 tb Qg8 AM=some AM.2.2.2:=by kernel_rfl
def Qo7:Q3 tb Qg9 AN=some AN.2.2.2:=by kernel_rfl
def Qo8:Q3 tb Qha AP=some AP.2.2.2:=by kernel_rfl
def QkK:Q3 tb Qbs GC=some GC.2.2.2:=by kernel_rfl
def QkL:Q3 tb Qbt GD=some GD.2.2.2:=by kernel_rfl
end Go.Am
