/-
  PfM13.
-/
import Derived.Test.YtjkjecpalfmohaaGreatDoorG26
set_option linter.all false
open Go.Am.F
namespace Go.Am
def QmQ:Q6 tb Qdf Ej=some Ej.2.2.2:=by kernel_rfl
def QmR:Q6 tb Qdg Ek=some Ek.2.2.2:=by kernel_rfl
def QmS:Q6 tb Qdh Em=some Em.2.2.2:=by kernel_rfl
def QmT:Q6 tb Qdi Eo=some Eo.2.2.2:=by kernel_rfl
def QmU:Q6 tb Qdj Ep=some Ep.2.2.2:=by kernel_rfl
def QmV:Q6 tb Qdk Er=some Er.2.2.2:=by kernel_rfl
end Go.Am
