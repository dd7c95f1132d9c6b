/-
  KnN0.
-/
import Derived.Test.YtgjaamacjmjjcaaGreatDoorG27
set_option linter.all false
open Go.Am.F
namespace Go.Am
def Qu7:Yb tb QeU QeX=some QeX.2.2.2:=by kernel_rfl
def Qu8:Yb tb Qnc QeY=some QeY.2.2.2:=by kernel_rfl
def Qu9:Yb tb Qnd QeZ=some QeZ.2.2.2:=by kernel_rfl
def Qva:Yb tb Qne Qe0=some Qe0.2.2.2:=by kernel_rfl
def Qvb:Yb tb Qnf Qe1=some Qe1.2.2.2:=by kernel_rfl
def Qvc:Yb tb Qng Qe2=some Qe2.2.2.2:=by kernel_rfl
def Qvd:Yb tb Qnh Qe3=some Qe3.2.2.2:=by kernel_rfl
def Qve:Yb tb Qni Qe4=some Qe4.2.2.2:=by kernel_rfl
end Go.Am
