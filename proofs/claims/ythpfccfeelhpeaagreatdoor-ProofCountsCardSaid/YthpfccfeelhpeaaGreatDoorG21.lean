/-
  PfM2.
-/
import Derived.Test.YthpfccfeelhpeaaGreatDoorG18
set_option linter.all false
open Go.Am.F
namespace Go.Am
def Bf:QD tb Ih Nc=some Nc.2.2.2:=by kernel_rfl
def Bg:QD tb Ii Nd=some Nd.2.2.2:=by kernel_rfl
def Bh:QD tb Ij Nf=some Nf.2.2.2:=by kernel_rfl
def Bi:QD tb Ik Ng=some Ng.2.2.2:=by kernel_rfl
def Bj:QD tb Il Nh=some Nh.2.2.2:=by kernel_rfl
def Bk:QD tb Im Ni=some Ni.2.2.2:=by kernel_rfl
end Go.Am
