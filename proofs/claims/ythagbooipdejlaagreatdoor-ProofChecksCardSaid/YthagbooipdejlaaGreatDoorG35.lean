/-
  PfM8.
-/
import Derived.Test.YthagbooipdejlaaGreatDoorG26
set_option linter.all false
open Go.Am.F
namespace Go.Am
def Qlm:Q3 tb Qb4 Ff=some Ff.2.2.2:=by kernel_rfl
def Qln:Q3 tb Qb5 Fg=some Fg.2.2.2:=by kernel_rfl
def Qlo:Q3 tb Qb6 Fh=some Fh.2.2.2:=by kernel_rfl
def Qlp:Q3 tb Qb7 Fi=some Fi.2.2.2:=by kernel_rfl
def Qlq:Q3 tb Qb8 Fj=some Fj.2.2.2:=by kernel_rfl
def Qlr:Q3 tb Qb9 Fk=some Fk.2.2.2:=by kernel_rfl
end Go.Am
