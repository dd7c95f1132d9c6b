/-
  KnN1.
-/
import Derived.Test.YtgjaamacjmjjcaaGreatDoorG27
set_option linter.all false
open Go.Am.F
namespace Go.Am
def Qve:Yc tb Qni Qe4=some Qe4.2.2.2:=by kernel_rfl
def Qvf:Yc tb Qnj Qe5=some Qe5.2.2.2:=by kernel_rfl
def Qrx:Yc tb Qg0 CV=some CV.2.2.2:=by kernel_rfl
def Qry:Yc tb Qg1 CW=some CW.2.2.2:=by kernel_rfl
def Qrz:Yc tb Qg2 CX=some CX.2.2.2:=by kernel_rfl
def QrA:Yc tb Qg3 CY=some CY.2.2.2:=by kernel_rfl
def QrB:Yc tb Qg4 CZ=some CZ.2.2.2:=by kernel_rfl
def QrC:Yc tb Qg5 C0=some C0.2.2.2:=by kernel_rfl
end Go.Am
