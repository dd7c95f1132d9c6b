/-
  PfM4.
-/
import Derived.Test.YtjkjecpalfmohaaGreatDoorG26
set_option linter.all false
open Go.Am.F
namespace Go.Am
def QlY:Q6 tb Qcn Fo=some Fo.2.2.2:=by kernel_rfl
def QlZ:Q6 tb Qco Fp=some Fp.2.2.2:=by kernel_rfl
def Ql0:Q6 tb Qcp Fq=some Fq.2.2.2:=by kernel_rfl
def Ql1:Q6 tb Qcq Fr=some Fr.2.2.2:=by kernel_rfl
def Ql2:Q6 tb Qcr Fs=some Fs.2.2.2:=by kernel_rfl
def Ql3:Q6 tb Qcs Ft=some Ft.2.2.2:=by kernel_rfl
end Go.Am
