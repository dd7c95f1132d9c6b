/-
  PfM10.
-/
import Derived.Test.YthpfccfeelhpeaaGreatDoorG18
set_option linter.all false
open Go.Am.F
namespace Go.Am
def B7:QD tb Ha N1=some N1.2.2.2:=by kernel_rfl
def B8:QD tb Hb N2=some N2.2.2.2:=by kernel_rfl
def B9:QD tb Hc N3=some N3.2.2.2:=by kernel_rfl
def Aa:QD tb Hd N4=some N4.2.2.2:=by kernel_rfl
def Ab:QD tb He N5=some N5.2.2.2:=by kernel_rfl
def Ac:QD tb Hf N6=some N6.2.2.2:=by kernel_rfl
end Go.Am
