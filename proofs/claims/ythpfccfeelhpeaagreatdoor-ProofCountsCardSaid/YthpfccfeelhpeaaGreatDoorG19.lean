/-
  PfM0.
-/
import Derived.Test.YthpfccfeelhpeaaGreatDoorG18
set_option linter.all false
open Go.Am.F
namespace Go.Am
def Qcv:QD tb KT KW=some KW.2.2.2:=by kernel_rfl
def Qcw:QD tb EY KX=some KX.2.2.2:=by kernel_rfl
def Qcx:QD tb EZ KY=some KY.2.2.2:=by kernel_rfl
def Qcy:QD tb E0 KZ=some KZ.2.2.2:=by kernel_rfl
def Qcz:QD tb E1 K0=some K0.2.2.2:=by kernel_rfl
def QcA:QD tb E3 K1=some K1.2.2.2:=by kernel_rfl
end Go.Am
