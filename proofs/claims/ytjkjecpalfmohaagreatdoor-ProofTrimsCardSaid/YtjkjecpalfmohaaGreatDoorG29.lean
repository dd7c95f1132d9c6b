/-
  PfM2.
-/
import Derived.Test.YtjkjecpalfmohaaGreatDoorG26
set_option linter.all false
open Go.Am.F
namespace Go.Am
def QlM:Q6 tb Qcb Fa=some Fa.2.2.2:=by kernel_rfl
def QlN:Q6 tb Qcc Fb=some Fb.2.2.2:=by kernel_rfl
def QlO:Q6 tb Qcd Fc=some Fc.2.2.2:=by kernel_rfl
def QlP:Q6 tb Qce Fe=some Fe.2.2.2:=by kernel_rfl
def QlQ:Q6 tb Qcf Ff=some Ff.2.2.2:=by kernel_rfl
def QlR:Q6 tb Qcg Fg=some Fg.2.2.2:=by kernel_rfl
end Go.Am
