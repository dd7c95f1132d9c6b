/-
  PfM7.
-/
import Derived.Test.YthpfccfeelhpeaaGreatDoorG18
set_option linter.all false
open Go.Am.F
namespace Go.Am
def BK:QD tb IP NI=some NI.2.2.2:=by kernel_rfl
def BL:QD tb IQ NJ=some NJ.2.2.2:=by kernel_rfl
def BM:QD tb IR NK=some NK.2.2.2:=by kernel_rfl
def BN:QD tb IU NL=some NL.2.2.2:=by kernel_rfl
def BO:QD tb IW NM=some NM.2.2.2:=by kernel_rfl
def BP:QD tb IX NN=some NN.2.2.2:=by kernel_rfl
end Go.Am
