/-
  PfM5.
-/
import Derived.Test.YthagbooipdejlaaGreatDoorG26
set_option linter.all false
open Go.Am.F
namespace Go.Am
def Qk4:Q3 tb QbM GW=some GW.2.2.2:=by kernel_rfl
def Qk5:Q3 tb QbN GX=some GX.2.2.2:=by kernel_rfl
def Qk6:Q3 tb QbO GY=some GY.2.2.2:=by kernel_rfl
def Qk7:Q3 tb QbP GZ=some GZ.2.2.2:=by kernel_rfl
def Qk8:Q3 tb QbQ G0=some G0.2.2.2:=by kernel_rfl
def Qk9:Q3 tb QbR G1=some G1.2.2.2:=by kernel_rfl
end Go.Am
