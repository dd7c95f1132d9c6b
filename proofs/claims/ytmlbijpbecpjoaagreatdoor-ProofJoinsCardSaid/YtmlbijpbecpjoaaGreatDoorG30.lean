/-
  PfM3.
-/
import Derived.Test.YtmlbijpbecpjoaaGreatDoorG26
set_option linter.all false
open Go.Am.F
namespace Go.Am
def Qj0:Q6 tb Qa1 Gi=some Gi.2.2.2:=by kernel_rfl
def Qj1:Q6 tb Qa2 Gj=some Gj.2.2.2:=by kernel_rfl
def Qj2:Q6 tb Qa3 Gk=some Gk.2.2.2:=by kernel_rfl
def Qj3:Q6 tb Qa4 Gl=some Gl.2.2.2:=by kernel_rfl
def Qj4:Q6 tb Qa5 Gm=some Gm.2.2.2:=by kernel_rfl
def Qj5:Q6 tb Qa6 Gn=some Gn.2.2.2:=by kernel_rfl
end Go.Am
