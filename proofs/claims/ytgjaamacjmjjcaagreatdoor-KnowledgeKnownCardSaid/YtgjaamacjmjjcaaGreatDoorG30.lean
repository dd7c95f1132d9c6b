/-
  KnN2.
-/
import Derived.Test.YtgjaamacjmjjcaaGreatDoorG27
set_option linter.all false
open Go.Am.F
namespace Go.Am
def QrE:Yb tb Qg7 C1=some C1.2.2.2:=by kernel_rfl
def QrF:Yb tb Qg8 C3=some C3.2.2.2:=by kernel_rfl
def QrG:Yb tb Qg9 C4=some C4.2.2.2:=by kernel_rfl
def QrH:Yb tb Qha C5=some C5.2.2.2:=by kernel_rfl
def QrI:Yb tb Qhb C6=some C6.2.2.2:=by kernel_rfl
def QrJ:Yb tb Qhc C7=some C7.2.2.2:=by kernel_rfl
def QrK:Yb tb Qhd C8=some C8.2.2.2:=by kernel_rfl
def QrL:Yb tb Qhe C9=some C9.2.2.2:=by kernel_rfl
end Go.Am
