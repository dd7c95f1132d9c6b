/-
  KnN5.
-/
import Derived.Test.YtgjaamacjmjjcaaGreatDoorG27
set_option linter.all false
open Go.Am.F
namespace Go.Am
def Qr2:Yb tb Qhv Bv=some Bv.2.2.2:=by kernel_rfl
def Qr3:Yb tb Qhw Bx=some Bx.2.2.2:=by kernel_rfl
def Qr4:Yb tb Qhx Bz=some Bz.2.2.2:=by kernel_rfl
def Qr5:Yb tb Qhy BA=some BA.2.2.2:=by kernel_rfl
def Qr6:Yb tb Qhz BC=some BC.2.2.2:=by kernel_rfl
def Qr7:Yb tb QhA BD=some BD.2.2.2:=by kernel_rfl
def Qr8:Yb tb QhB BE=some BE.2.2.2:=by kernel_rfl
def Qr9:Yb tb QhC BF=some BF.2.2.2:=by kernel_rfl
end Go.Am
