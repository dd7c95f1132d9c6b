/-
  PfM13.
-/
import Derived.Test.YthpfccfeelhpeaaGreatDoorG18
set_option linter.all false
open Go.Am.F
namespace Go.Am
def Aq:QD tb Hs Mj=some Mj.2.2.2:=by kernel_rfl
def Ar:QD tb Ht Mk=some Mk.2.2.2:=by kernel_rfl
def As:QD tb Hu Ml=some Ml.2.2.2:=by kernel_rfl
def Au:QD tb Hv Mm=some Mm.2.2.2:=by kernel_rfl
def Av:QD tb Hw Mn=some Mn.2.2.2:=by kernel_rfl
def Aw:QD tb Hx Mo=some Mo.2.2.2:=by kernel_rfl
end Go.Am
