/-
  PfM8.
-/
import Derived.Test.YthpfccfeelhpeaaGreatDoorG18
set_option linter.all false
open Go.Am.F
namespace Go.Am
def BQ:QD tb IY NO=some NO.2.2.2:=by kernel_rfl
def BR:QD tb IZ NP=some NP.2.2.2:=by kernel_rfl
def BS:QD tb I0 NQ=some NQ.2.2.2:=by kernel_rfl
def BT:QD tb I1 NR=some NR.2.2.2:=by kernel_rfl
def BU:QD tb I2 NS=some NS.2.2.2:=by kernel_rfl
def BV:QD tb I3 NT=some NT.2.2.2:=by kernel_rfl
end Go.Am
