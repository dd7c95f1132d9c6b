/-
  PfM3.
-/
import Derived.Test.YthpfccfeelhpeaaGreatDoorG18
set_option linter.all false
open Go.Am.F
namespace Go.Am
def Bl:QD tb Io Nj=some Nj.2.2.2:=by kernel_rfl
def Bm:QD tb Ip Nk=some Nk.2.2.2:=by kernel_rfl
def Bn:QD tb Iq Nl=some Nl.2.2.2:=by kernel_rfl
def Bo:QD tb Ir Nm=some Nm.2.2.2:=by kernel_rfl
def Bp:QD tb Is Nn=some Nn.2.2.2:=by kernel_rfl
def Bq:QD tb It Np=some Np.2.2.2:=by kernel_rfl
end Go.Am
