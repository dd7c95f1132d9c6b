/-
  PfM12.
-/
import Derived.Test.YthpfccfeelhpeaaGreatDoorG18
set_option linter.all false
open Go.Am.F
namespace Go.Am
def Aj:QD tb Hm Md=some Md.2.2.2:=by kernel_rfl
def Ak:QD tb Hn Me=some Me.2.2.2:=by kernel_rfl
def Al:QD tb Ho Mf=some Mf.2.2.2:=by kernel_rfl
def An:QD tb Hp Mg=some Mg.2.2.2:=by kernel_rfl
def Ao:QD tb Hq Mh=some Mh.2.2.2:=by kernel_rfl
def Ap:QD tb Hr Mi=some Mi.2.2.2:=by kernel_rfl
end Go.Am
