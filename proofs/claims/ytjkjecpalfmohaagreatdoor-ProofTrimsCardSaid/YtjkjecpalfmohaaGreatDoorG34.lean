/-
  PfM7.
-/
import Derived.Test.YtjkjecpalfmohaaGreatDoorG26
set_option linter.all false
open Go.Am.F
namespace Go.Am
def Qmg:Q6 tb QcF FH=some FH.2.2.2:=by kernel_rfl
def Qmh:Q6 tb QcG FI=some FI.2.2.2:=by kernel_rfl
def Qmi:Q6 tb QcH FJ=some FJ.2.2.2:=by kernel_rfl
def Qmj:Q6 tb QcI FK=some FK.2.2.2:=by kernel_rfl
def Qmk:Q6 tb QcJ FL=some FL.2.2.2:=by kernel_rfl
def Qml:Q6 tb QcK FM=some FM.2.2.2:=by kernel_rfl
end Go.Am
