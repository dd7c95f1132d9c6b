/-
  PfM6.
-/
import Derived.Test.YthpfccfeelhpeaaGreatDoorG18
set_option linter.all false
open Go.Am.F
namespace Go.Am
def BE:QD tb IG NC=some NC.2.2.2:=by kernel_rfl
def BF:QD tb II ND=some ND.2.2.2:=by kernel_rfl
def BG:QD tb IJ NE=some NE.2.2.2:=by kernel_rfl
def BH:QD tb IK NF=some NF.2.2.2:=by kernel_rfl
def BI:QD tb IL NG=some NG.2.2.2:=by kernel_rfl
def BJ:QD tb IM NH=some NH.2.2.2:=by kernel_rfl
end Go.Am
