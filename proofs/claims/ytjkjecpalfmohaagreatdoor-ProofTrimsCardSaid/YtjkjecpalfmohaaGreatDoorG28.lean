/-
  PfM1.
-/
import Derived.Test.YtjkjecpalfmohaaGreatDoorG26
set_option linter.all false
open Go.Am.F
namespace Go.Am
def Qp7:Q6 tb Qh2 Qax=some Qax.2.2.2:=by kernel_rfl
def Qp8:Q6 tb Qh3 Qay=some Qay.2.2.2:=by kernel_rfl
def Qp9:Q6 tb Qh4 Qaz=some Qaz.2.2.2:=by kernel_rfl
def Qqa:Q6 tb Qh5 QaA=some QaA.2.2.2:=by kernel_rfl
def QlK:Q6 tb Qb9 G8=some G8.2.2.2:=by kernel_rfl
def QlL:Q6 tb Qca G9=some G9.2.2.2:=by kernel_rfl
end Go.Am
