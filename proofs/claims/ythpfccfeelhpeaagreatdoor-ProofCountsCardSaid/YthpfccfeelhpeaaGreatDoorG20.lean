/-
  PfM1.
-/
import Derived.Test.YthpfccfeelhpeaaGreatDoorG18
set_option linter.all false
open Go.Am.F
namespace Go.Am
def QcB:QD tb E4 K2=some K2.2.2.2:=by kernel_rfl
def QcC:QD tb E5 K3=some K3.2.2.2:=by kernel_rfl
def QcD:QD tb E6 K4=some K4.2.2.2:=by kernel_rfl
def QcE:QD tb E7 K5=some K5.2.2.2:=by kernel_rfl
def Bd:QD tb Ie Na=some Na.2.2.2:=by kernel_rfl
def Be:QD tb Ig Nb=some Nb.2.2.2:=by kernel_rfl
end Go.Am
