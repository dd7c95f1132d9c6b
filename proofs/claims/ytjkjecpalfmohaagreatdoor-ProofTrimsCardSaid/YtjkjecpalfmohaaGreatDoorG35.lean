/-
  PfM8.
-/
import Derived.Test.YtjkjecpalfmohaaGreatDoorG26
set_option linter.all false
open Go.Am.F
namespace Go.Am
def Qmm:Q6 tb QcL FN=some FN.2.2.2:=by kernel_rfl
def Qmn:Q6 tb QcM FO=some FO.2.2.2:=by kernel_rfl
def Qmo:Q6 tb QcN FP=some FP.2.2.2:=by kernel_rfl
def Qmp:Q6 tb QcO FQ=some FQ.2.2.2:=by kernel_rfl
def Qmq:Q6 tb QcP FR=some FR.2.2.2:=by kernel_rfl
def Qmr:Q6 tb QcQ FT=some FT.2.2.2:=by kernel_rfl
end Go.Am
