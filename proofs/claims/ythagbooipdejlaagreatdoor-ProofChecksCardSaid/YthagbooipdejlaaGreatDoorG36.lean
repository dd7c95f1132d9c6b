/-
  PfM9.
-/
import Derived.Test.YthagbooipdejlaaGreatDoorG26
set_option linter.all false
open Go.Am.F
namespace Go.Am
def Qls:Q3 tb Qca Fl=some Fl.2.2.2:=by kernel_rfl
def Qlt:Q3 tb Qcb Fm=some Fm.2.2.2:=by kernel_rfl
def Qlu:Q3 tb Qcc Fo=some Fo.2.2.2:=by kernel_rfl
def Qlv:Q3 tb Qcd Fp=some Fp.2.2.2:=by kernel_rfl
def Qlw:Q3 tb Qce Fq=some Fq.2.2.2:=by kernel_rfl
def Qlx:Q3 tb Qcf Fr=some Fr.2.2.2:=by kernel_rfl
end Go.Am
