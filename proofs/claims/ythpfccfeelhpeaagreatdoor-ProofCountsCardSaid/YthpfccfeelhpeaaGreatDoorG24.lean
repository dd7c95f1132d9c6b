/-
  PfM5.
-/
import Derived.Test.YthpfccfeelhpeaaGreatDoorG18
set_option linter.all false
open Go.Am.F
namespace Go.Am
def Bx:QD tb IA Nw=some Nw.2.2.2:=by kernel_rfl
def Bz:QD tb IB Nx=some Nx.2.2.2:=by kernel_rfl
def BA:QD tb IC Ny=some Ny.2.2.2:=by kernel_rfl
def BB:QD tb ID Nz=some Nz.2.2.2:=by kernel_rfl
def BC:QD tb IE NA=some NA.2.2.2:=by kernel_rfl
def BD:QD tb IF NB=some NB.2.2.2:=by kernel_rfl
end Go.Am
