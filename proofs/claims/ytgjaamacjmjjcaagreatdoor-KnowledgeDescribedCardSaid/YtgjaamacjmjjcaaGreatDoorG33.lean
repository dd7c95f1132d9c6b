/-
  KnN5.
-/
import Derived.Test.YtgjaamacjmjjcaaGreatDoorG27
set_option linter.all false
open Go.Am.F
namespace Go.Am
def Qr1:Yc tb Qhu Bv=some Bv.2.2.2:=by kernel_rfl
def Qr2:Yc tb Qhv Bx=some Bx.2.2.2:=by kernel_rfl
def Qr3:Yc tb Qhw Bz=some Bz.2.2.2:=by kernel_rfl
def Qr4:Yc tb Qhx BA=some BA.2.2.2:=by kernel_rfl
def Qr5:Yc tb Qhy BC=some BC.2.2.2:=by kernel_rfl
def Qr6:Yc tb Qhz BD=some BD.2.2.2:=by kernel_rfl
def Qr7:Yc tb QhA BE=some BE.2.2.2:=by kernel_rfl
def Qr8:Yc tb QhB BF=some BF.2.2.2:=by kernel_rfl
end Go.Am
