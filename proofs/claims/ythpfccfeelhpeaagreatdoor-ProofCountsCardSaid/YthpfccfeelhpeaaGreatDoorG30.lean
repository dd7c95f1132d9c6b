/-
  PfM11.
-/
import Derived.Test.YthpfccfeelhpeaaGreatDoorG18
set_option linter.all false
open Go.Am.F
namespace Go.Am
def Ad:QD tb Hg N7=some N7.2.2.2:=by kernel_rfl
def Ae:QD tb Hh N8=some N8.2.2.2:=by kernel_rfl
def Af:QD tb Hi N9=some N9.2.2.2:=by kernel_rfl
def Ag:QD tb Hj Ma=some Ma.2.2.2:=by kernel_rfl
def Ah:QD tb Hk Mb=some Mb.2.2.2:=by kernel_rfl
def Ai:QD tb Hl Mc=some Mc.2.2.2:=by kernel_rfl
end Go.Am
