/-
  KnN2.
-/
import Derived.Test.YtgjaamacjmjjcaaGreatDoorG27
set_option linter.all false
open Go.Am.F
namespace Go.Am
def QrD:Yc tb Qg6 C1=some C1.2.2.2:=by kernel_rfl
def QrE:Yc tb Qg7 C3=some C3.2.2.2:=by kernel_rfl
def QrF:Yc tb Qg8 C4=some C4.2.2.2:=by kernel_rfl
def QrG:Yc tb Qg9 C5=some C5.2.2.2:=by kernel_rfl
def QrH:Yc tb Qha C6=some C6.2.2.2:=by kernel_rfl
def QrI:Yc tb Qhb C7=some C7.2.2.2:=by kernel_rfl
def QrJ:Yc tb Qhc C8=some C8.2.2.2:=by kernel_rfl
def QrK:Yc tb Qhd C9=some C9.2.2.2:=by kernel_rfl
end Go.Am
