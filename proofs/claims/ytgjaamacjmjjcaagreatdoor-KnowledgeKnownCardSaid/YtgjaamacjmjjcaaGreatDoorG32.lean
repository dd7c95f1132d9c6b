/-
  KnN4.
-/
import Derived.Test.YtgjaamacjmjjcaaGreatDoorG27
set_option linter.all false
open Go.Am.F
namespace Go.Am
def QrU:Yb tb Qhn Bl=some Bl.2.2.2:=by kernel_rfl
def QrV:Yb tb Qho Bm=some Bm.2.2.2:=by kernel_rfl
def QrW:Yb tb Qhp Bn=some Bn.2.2.2:=by kernel_rfl
def QrX:Yb tb Qhq Bo=some Bo.2.2.2:=by kernel_rfl
def QrY:Yb tb Qhr Bp=some Bp.2.2.2:=by kernel_rfl
def QrZ:Yb tb Qhs Bq=some Bq.2.2.2:=by kernel_rfl
def Qr0:Yb tb Qht Bt=some Bt.2.2.2:=by kernel_rfl
def Qr1:Yb tb Qhu Bu=some Bu.2.2.2:=by kernel_rfl
end Go.Am
