/-
  KnN11.
-/
import Derived.Test.YthlnfdbbneaelaaGreatDoorG27
set_option linter.all false
open Go.Am.F
namespace Go.Am
def Qr7:Yi tb Qhi CY=some CY.2.2.2:=by kernel_rfl
def Qr8:Yi tb Qhj CZ=some CZ.2.2.2:=by kernel_rfl
def Qr9:Yi tb Qhk C0=some C0.2.2.2:=by kernel_rfl
def Qsa:Yi tb Qhl C1=some C1.2.2.2:=by kernel_rfl
end Go.Am
