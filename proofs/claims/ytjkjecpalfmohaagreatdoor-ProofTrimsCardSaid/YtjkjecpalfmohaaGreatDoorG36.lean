/-
  PfM9.
-/
import Derived.Test.YtjkjecpalfmohaaGreatDoorG26
set_option linter.all false
open Go.Am.F
namespace Go.Am
def Qms:Q6 tb QcR FU=some FU.2.2.2:=by kernel_rfl
def Qmt:Q6 tb QcS FV=some FV.2.2.2:=by kernel_rfl
def Qmu:Q6 tb QcT FW=some FW.2.2.2:=by kernel_rfl
def Qmv:Q6 tb QcU FX=some FX.2.2.2:=by kernel_rfl
def Qmw:Q6 tb QcV FY=some FY.2.2.2:=by kernel_rfl
def Qmx:Q6 tb QcW FZ=some FZ.2.2.2:=by kernel_rfl
end Go.Am
