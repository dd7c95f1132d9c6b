/-
  PfM5.
-/
import Derived.Test.YtjkjecpalfmohaaGreatDoorG26
set_option linter.all false
open Go.Am.F
namespace Go.Am
def Ql4:Q6 tb Qct Fu=some Fu.2.2.2:=by kernel_rfl
def Ql5:Q6 tb Qcu Fv=some Fv.2.2.2:=by kernel_rfl
def Ql6:Q6 tb Qcv Fw=some Fw.2.2.2:=by kernel_rfl
def Ql7:Q6 tb Qcw Fx=some Fx.2.2.2:=by kernel_rfl
def Ql8:Q6 tb Qcx Fy=some Fy.2.2.2:=by kernel_rfl
def Ql9:Q6 tb Qcy Fz=some Fz.2.2.2:=by kernel_rfl
end Go.Am
