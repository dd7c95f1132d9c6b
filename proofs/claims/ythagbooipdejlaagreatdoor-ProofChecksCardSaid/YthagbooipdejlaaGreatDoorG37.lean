/-
  PfM10.
-/
import Derived.Test.YthagbooipdejlaaGreatDoorG26
set_option linter.all false
open Go.Am.F
namespace Go.Am
def Qly:Q3 tb Qcg Fs=some Fs.2.2.2:=by kernel_rfl
def Qlz:Q3 tb Qch Ft=some Ft.2.2.2:=by kernel_rfl
def QlA:Q3 tb Qci Fu=some Fu.2.2.2:=by kernel_rfl
def QlB:Q3 tb Qcj Fv=some Fv.2.2.2:=by kernel_rfl
def QlC:Q3 tb Qck Fw=some Fw.2.2.2:=by kernel_rfl
def QlD:Q3 tb Qcl Fx=some Fx.2.2.2:=by kernel_rfl
end Go.Am
