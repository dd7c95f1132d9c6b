/-
  PfM4.
-/
import Derived.Test.YthpfccfeelhpeaaGreatDoorG18
set_option linter.all false
open Go.Am.F
namespace Go.Am
def Br:QD tb Iu Nq=some Nq.2.2.2:=by kernel_rfl
def Bs:QD tb Iv Nr=some Nr.2.2.2:=by kernel_rfl
def Bt:QD tb Iw Ns=some Ns.2.2.2:=by kernel_rfl
def Bu:QD tb Ix Nt=some Nt.2.2.2:=by kernel_rfl
def Bv:QD tb Iy Nu=some Nu.2.2.2:=by kernel_rfl
def Bw:QD tb Iz Nv=some Nv.2.2.2:=by kernel_rfl
end Go.Am
