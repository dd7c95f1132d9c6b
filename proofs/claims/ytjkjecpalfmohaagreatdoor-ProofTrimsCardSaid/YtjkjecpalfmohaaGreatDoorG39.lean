/-
  PfM12.
-/
import Derived.Test.YtjkjecpalfmohaaGreatDoorG26
set_option linter.all false
open Go.Am.F
namespace Go.Am
def QmK:Q6 tb Qc9 Ec=some Ec.2.2.2:=by kernel_rfl
def QmL:Q6 tb Qda Ed=some Ed.2.2.2:=by kernel_rfl
def QmM:Q6 tb Qdb Ee=some Ee.2.2.2:=by kernel_rfl
def QmN:Q6 tb Qdc Ef=some Ef.2.2.2:=by kernel_rfl
def QmO:Q6 tb Qdd Eh=some Eh.2.2.2:=by kernel_rfl
def QmP:Q6 tb Qde Ei=some Ei.2.2.2:=by kernel_rfl
end Go.Am
