/-
  PfM7.
-/
import Derived.Test.YthagbooipdejlaaGreatDoorG26
set_option linter.all false
open Go.Am.F
namespace Go.Am
def Qlg:Q3 tb QbY G8=some G8.2.2.2:=by kernel_rfl
def Qlh:Q3 tb QbZ G9=some G9.2.2.2:=by kernel_rfl
def Qli:Q3 tb Qb0 Fa=some Fa.2.2.2:=by kernel_rfl
def Qlj:Q3 tb Qb1 Fb=some Fb.2.2.2:=by kernel_rfl
def Qlk:Q3 tb Qb2 Fc=some Fc.2.2.2:=by kernel_rfl
def Qll:Q3 tb Qb3 Fe=some Fe.2.2.2:=by kernel_rfl
end Go.Am
