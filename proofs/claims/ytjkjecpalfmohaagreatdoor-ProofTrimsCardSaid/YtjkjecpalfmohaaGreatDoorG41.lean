/-
  PfM14.
-/
import Derived.Test.YtjkjecpalfmohaaGreatDoorG26
set_option linter.all false
open Go.Am.F
namespace Go.Am
def QmW:Q6 tb Qdl Et=some Et.2.2.2:=by kernel_rfl
def QmX:Q6 tb Qdm Eu=some Eu.2.2.2:=by kernel_rfl
def QmY:Q6 tb Qdn Ev=some Ev.2.2.2:=by kernel_rfl
def QmZ:Q6 tb Qdo Ew=some Ew.2.2.2:=by kernel_rfl
def Qm0:Q6 tb Qdp Ey=some Ey.2.2.2:=by kernel_rfl
def Qm1:Q6 tb Qdq Ez=some Ez.2.2.2:=by kernel_rfl
end Go.Am
