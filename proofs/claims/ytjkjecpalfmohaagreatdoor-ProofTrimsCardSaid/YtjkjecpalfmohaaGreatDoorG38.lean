/-
  PfM11.
-/
import Derived.Test.YtjkjecpalfmohaaGreatDoorG26
set_option linter.all false
open Go.Am.F
namespace Go.Am
def QmE:Q6 tb Qc3 F6=some F6.2.2.2:=by kernel_rfl
def QmF:Q6 tb Qc4 F7=some F7.2.2.2:=by kernel_rfl
def QmG:Q6 tb Qc5 F8=some F8.2.2.2:=by kernel_rfl
def QmH:Q6 tb Qc6 F9=some F9.2.2.2:=by kernel_rfl
def QmI:Q6 tb Qc7 Ea=some Ea.2.2.2:=by kernel_rfl
def QmJ:Q6 tb Qc8 Eb=some Eb.2.2.2:=by kernel_rfl
end Go.Am
