/-
  PfM10.
-/
import Derived.Test.YtjkjecpalfmohaaGreatDoorG26
set_option linter.all false
open Go.Am.F
namespace Go.Am
def Qmy:Q6 tb QcX F0=some F0.2.2.2:=by kernel_rfl
def Qmz:Q6 tb QcY F1=some F1.2.2.2:=by kernel_rfl
def QmA:Q6 tb QcZ F2=some F2.2.2.2:=by kernel_rfl
def QmB:Q6 tb Qc0 F3=some F3.2.2.2:=by kernel_rfl
def QmC:Q6 tb Qc1 F4=some F4.2.2.2:=by kernel_rfl
def QmD:Q6 tb Qc2 F5=some F5.2.2.2:=by kernel_rfl
end Go.Am
