/-
  PfM9.
-/
import Derived.Test.YtmlbijpbecpjoaaGreatDoorG26
set_option linter.all false
open Go.Am.F
namespace Go.Am
def QkA:Q6 tb QbB GT=some GT.2.2.2:=by kernel_rfl
def QkB:Q6 tb QbC GU=some GU.2.2.2:=by kernel_rfl
def QkC:Q6 tb QbD GV=some GV.2.2.2:=by kernel_rfl
def QkD:Q6 tb QbE GW=some GW.2.2.2:=by kernel_rfl
def QkE:Q6 tb QbF GX=some GX.2.2.2:=by kernel_rfl
def QkF:Q6 tb QbG GY=some GY.2.2.2:=by kernel_rfl
end Go.Am
