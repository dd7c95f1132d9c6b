/-
  PfM10.
-/
import Derived.Test.YtmlbijpbecpjoaaGreatDoorG26
set_option linter.all false
open Go.Am.F
namespace Go.Am
def QkG:Q6 tb QbH GZ=some GZ.2.2.2:=by kernel_rfl
def QkH:Q6 tb QbI G0=some G0.2.2.2:=by kernel_rfl
def QkI:Q6 tb QbJ G1=some G1.2.2.2:=by kernel_rfl
def QkJ:Q6 tb QbK G2=some G2.2.2.2:=by kernel_rfl
def QkK:Q6 tb QbL G3=some G3.2.2.2:=by kernel_rfl
def QkL:Q6 tb QbM G4=some G4.2.2.2:=by kernel_rfl
end Go.Am
