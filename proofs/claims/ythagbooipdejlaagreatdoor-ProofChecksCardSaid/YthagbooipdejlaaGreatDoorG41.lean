/-
  PfM14.
-/
import Derived.Test.YthagbooipdejlaaGreatDoorG26
set_option linter.all false
open Go.Am.F
namespace Go.Am
def QlW:Q3 tb QcE FR=some FR.2.2.2:=by kernel_rfl
def QlX:Q3 tb QcF FT=some FT.2.2.2:=by kernel_rfl
def QlY:Q3 tb QcG FU=some FU.2.2.2:=by kernel_rfl
def QlZ:Q3 tb QcH FV=some FV.2.2.2:=by kernel_rfl
def Ql0:Q3 tb QcI FW=some FW.2.2.2:=by kernel_rfl
def Ql1:Q3 tb QcJ FX=some FX.2.2.2:=by kernel_rfl
end Go.Am
