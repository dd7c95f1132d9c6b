/-
  PfM6.
-/
import Derived.Test.YthagbooipdejlaaGreatDoorG26
set_option linter.all false
open Go.Am.F
namespace Go.Am
def Qla:Q3 tb QbS G2=some G2.2.2.2:=by kernel_rfl
def Qlb:Q3 tb QbT G3=some G3.2.2.2:=by kernel_rfl
def Qlc:Q3 tb QbU G4=some G4.2.2.2:=by kernel_rfl
def Qld:Q3 tb QbV G5=some G5.2.2.2:=by kernel_rfl
def Qle:Q3 tb QbW G6=some G6.2.2.2:=by kernel_rfl
def Qlf:Q3 tb QbX G7=some G7.2.2.2:=by kernel_rfl
end Go.Am
