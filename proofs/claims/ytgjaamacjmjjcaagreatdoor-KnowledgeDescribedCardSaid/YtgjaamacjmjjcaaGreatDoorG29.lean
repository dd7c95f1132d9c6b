/-
  KnN1.
-/
import Derived.Test.YtgjaamacjmjjcaaGreatDoorG27
set_option linter.all false
open Go.Am.F
namespace Go.Am
def Qvf:Yb tb Qnj Qe5=some Qe5.2.2.2:=by kernel_rfl
def Qvg:Yb tb Qnk Qe6=some Qe6.2.2.2:=by kernel_rfl
def Qry:Yb tb Qg1 CV=some CV.2.2.2:=by kernel_rfl
def Qrz:Yb tb Qg2 CW=some CW.2.2.2:=by kernel_rfl
def QrA:Yb tb Qg3 CX=some CX.2.2.2:=by kernel_rfl
def QrB:Yb tb Qg4 CY=some CY.2.2.2:=by kernel_rfl
def QrC:Yb tb Qg5 CZ=some CZ.2.2.2:=by kernel_rfl
def QrD:Yb tb Qg6 C0=some C0.2.2.2:=by kernel_rfl
end Go.Am
