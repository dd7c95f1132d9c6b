/-
  PfM4.
-/
import Derived.Test.YthagbooipdejlaaGreatDoorG26
set_option linter.all false
open Go.Am.F
namespace Go.Am
def QkY:Q3 tb QbG GQ=some GQ.2.2.2:=by kernel_rfl
def QkZ:Q3 tb QbH GR=some GR.2.2.2:=by kernel_rfl
def Qk0:Q3 tb QbI GS=some GS.2.2.2:=by kernel_rfl
def Qk1:Q3 tb QbJ GT=some GT.2.2.2:=by kernel_rfl
def Qk2:Q3 tb QbK GU=some GU.2.2.2:=by kernel_rfl
def Qk3:Q3 tb QbL GV=some GV.2.2.2:=by kernel_rfl
end Go.Am
