/-
  PfM3.
-/
import Derived.Test.YtjkjecpalfmohaaGreatDoorG26
set_option linter.all false
open Go.Am.F
namespace Go.Am
def QlS:Q6 tb Qch Fh=some Fh.2.2.2:=by kernel_rfl
def QlT:Q6 tb Qci Fi=some Fi.2.2.2:=by kernel_rfl
def QlU:Q6 tb Qcj Fj=some Fj.2.2.2:=by kernel_rfl
def QlV:Q6 tb Qck Fk=some Fk.2.2.2:=by kernel_rfl
def QlW:Q6 tb Qcl Fl=some Fl.2.2.2:=by kernel_rfl
def QlX:Q6 tb Qcm Fm=some Fm.2.2.2:=by kernel_rfl
end Go.Am
