/-
  PfM6.
-/
import Derived.Test.YtjkjecpalfmohaaGreatDoorG26
set_option linter.all false
open Go.Am.F
namespace Go.Am
def Qma:Q6 tb Qcz FA=some FA.2.2.2:=by kernel_rfl
def Qmb:Q6 tb QcA FB=some FB.2.2.2:=by kernel_rfl
def Qmc:Q6 tb QcB FC=some FC.2.2.2:=by kernel_rfl
def Qmd:Q6 tb QcC FE=some FE.2.2.2:=by kernel_rfl
def Qme:Q6 tb QcD FF=some FF.2.2.2:=by kernel_rfl
def Qmf:Q6 tb QcE FG=some FG.2.2.2:=by kernel_rfl
end Go.Am
