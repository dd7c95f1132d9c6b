/-
  PfM0.
-/
import Derived.Test.YtjkjecpalfmohaaGreatDoorG26
set_option linter.all false
open Go.Am.F
namespace Go.Am
def Qp1:Q6 tb Qao Qar=some Qar.2.2.2:=by kernel_rfl
def Qp2:Q6 tb QhX Qas=some Qas.2.2.2:=by kernel_rfl
def Qp3:Q6 tb QhY Qat=some Qat.2.2.2:=by kernel_rfl
def Qp4:Q6 tb QhZ Qau=some Qau.2.2.2:=by kernel_rfl
def Qp5:Q6 tb Qh0 Qav=some Qav.2.2.2:=by kernel_rfl
def Qp6:Q6 tb Qh1 Qaw=some Qaw.2.2.2:=by kernel_rfl
end Go.Am
