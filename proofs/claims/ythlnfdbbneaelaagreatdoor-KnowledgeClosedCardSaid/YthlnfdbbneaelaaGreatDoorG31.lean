/-
  KnN3.
-/
import Derived.Test.YthlnfdbbneaelaaGreatDoorG27
set_option linter.all false
open Go.Am.F
namespace Go.Am
def QrB:Yi tb QgM Cq=some Cq.2.2.2:=by kernel_rfl
def QrC:Yi tb QgN Cr=some Cr.2.2.2:=by kernel_rfl
def QrD:Yi tb QgO Cs=some Cs.2.2.2:=by kernel_rfl
def QrE:Yi tb QgP Ct=some Ct.2.2.2:=by kernel_rfl
end Go.Am
