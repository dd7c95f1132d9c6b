/-
  PfM2.
-/
import Derived.Test.YthagbooipdejlaaGreatDoorG26
set_option linter.all false
open Go.Am.F
namespace Go.Am
def QkM:Q3 tb Qbu GE=some GE.2.2.2:=by kernel_rfl
def QkN:Q3 tb Qbv GF=some GF.2.2.2:=by kernel_rfl
def QkO:Q3 tb Qbw GG=some GG.2.2.2:=by kernel_rfl
def QkP:Q3 tb Qbx GH=some GH.2.2.2:=by kernel_rfl
def QkQ:Q3 tb Qby GI=some GI.2.2.2:=by kernel_rfl
def QkR:Q3 tb Qbz GJ=some GJ.2.2.2:=by kernel_rfl
end Go.Am
