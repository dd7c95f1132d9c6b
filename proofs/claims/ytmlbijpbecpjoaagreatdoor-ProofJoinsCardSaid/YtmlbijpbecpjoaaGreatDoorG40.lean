/-
  PfM13.
-/
import Derived.Test.YtmlbijpbecpjoaaGreatDoorG26
set_option linter.all false
open Go.Am.F
namespace Go.Am
def QkY:Q6 tb QbZ Fi=some Fi.2.2.2:=by kernel_rfl
def QkZ:Q6 tb Qb0 Fj=some Fj.2.2.2:=by kernel_rfl
def Qk0:Q6 tb Qb1 Fk=some Fk.2.2.2:=by kernel_rfl
def Qk1:Q6 tb Qb2 Fl=some Fl.2.2.2:=by kernel_rfl
def Qk2:Q6 tb Qb3 Fm=some Fm.2.2.2:=by kernel_rfl
def Qk3:Q6 tb Qb4 Fo=some Fo.2.2.2:=by kernel_rfl
end Go.Am
