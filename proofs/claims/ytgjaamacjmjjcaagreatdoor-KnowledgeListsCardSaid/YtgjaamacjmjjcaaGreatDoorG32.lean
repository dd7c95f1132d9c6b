/-
  KnN4.
-/
import Derived.Test.YtgjaamacjmjjcaaGreatDoorG27
set_option linter.all false
open Go.Am.F
namespace Go.Am
def QrT:Yc tb Qhm Bl=some Bl.2.2.2:=by kernel_rfl
def QrU:Yc tb Qhn Bm=some Bm.2.2.2:=by kernel_rfl
def QrV:Yc tb Qho Bn=some Bn.2.2.2:=by kernel_rfl
def QrW:Yc tb Qhp Bo=some Bo.2.2.2:=by kernel_rfl
def QrX:Yc tb Qhq Bp=some Bp.2.2.2:=by kernel_rfl
def QrY:Yc tb Qhr Bq=some Bq.2.2.2:=by kernel_rfl
def QrZ:Yc tb Qhs Bt=some Bt.2.2.2:=by kernel_rfl
def Qr0:Yc tb Qht Bu=some Bu.2.2.2:=by kernel_rfl
end Go.Am
