/-
  KnN0.
-/
import Derived.Test.YtgjaamacjmjjcaaGreatDoorG27
set_option linter.all false
open Go.Am.F
namespace Go.Am
def Qu6:Yc tb QeT QeW=some QeW.2.2.2:=by kernel_rfl
def Qu7:Yc tb Qnb QeX=some QeX.2.2.2:=by kernel_rfl
def Qu8:Yc tb Qnc QeY=some QeY.2.2.2:=by kernel_rfl
def Qu9:Yc tb Qnd QeZ=some QeZ.2.2.2:=by kernel_rfl
def Qva:Yc tb Qne Qe0=some Qe0.2.2.2:=by kernel_rfl
def Qvb:Yc tb Qnf Qe1=some Qe1.2.2.2:=by kernel_rfl
def Qvc:Yc tb Qng Qe2=some Qe2.2.2.2:=by kernel_rfl
def Qvd:Yc tb Qnh Qe3=some Qe3.2.2.2:=by kernel_rfl
end Go.Am
