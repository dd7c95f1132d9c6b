/-
  PfM9.
-/
import Derived.Test.YthpfccfeelhpeaaGreatDoorG18
set_option linter.all false
open Go.Am.F
namespace Go.Am
def BW:QD tb I4 NU=some NU.2.2.2:=by kernel_rfl
def BX:QD tb I5 NV=some NV.2.2.2:=by kernel_rfl
def BZ:QD tb I6 NW=some NW.2.2.2:=by kernel_rfl
def B4:QD tb I7 NX=some NX.2.2.2:=by kernel_rfl
def B5:QD tb I8 NY=some NY.2.2.2:=by kernel_rfl
def B6:QD tb I9 N0=some N0.2.2.2:=by kernel_rfl
end Go.Am
