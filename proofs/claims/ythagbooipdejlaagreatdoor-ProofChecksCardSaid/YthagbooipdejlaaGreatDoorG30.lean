/-
  PfM3.
-/
import Derived.Test.YthagbooipdejlaaGreatDoorG26
set_option linter.all false
open Go.Am.F
namespace Go.Am
def QkS:Q3 tb QbA GK=some GK.2.2.2:=by kernel_rfl
def QkT:Q3 tb QbB GL=some GL.2.2.2:=by kernel_rfl
def QkU:Q3 tb QbC GM=some GM.2.2.2:=by kernel_rfl
def QkV:Q3 tb QbD GN=some GN.2.2.2:=by kernel_rfl
def QkW:Q3 tb QbE GO=some GO.2.2.2:=by kernel_rfl
def QkX:Q3 tb QbF GP=some GP.2.2.2:=by kernel_rfl
end Go.Am
