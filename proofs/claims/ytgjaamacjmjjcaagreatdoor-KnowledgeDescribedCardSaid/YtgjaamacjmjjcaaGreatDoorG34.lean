/-
  KnN6.
-/
import Derived.Test.YtgjaamacjmjjcaaGreatDoorG27
set_option linter.all false
open Go.Am.F
namespace Go.Am
def Qr9:Yc tb QhC BG=some BG.2.2.2:=by kernel_rfl
def Qsa:Yc tb QhD BH=some BH.2.2.2:=by kernel_rfl
def Qsb:Yc tb QhE BI=some BI.2.2.2:=by kernel_rfl
def Qsc:Yc tb QhF BJ=some BJ.2.2.2:=by kernel_rfl
def Qsd:Yc tb QhG BK=some BK.2.2.2:=by kernel_rfl
def Qse:Yc tb QhH BL=some BL.2.2.2:=by kernel_rfl
def Qsf:Yc tb QhI BN=some BN.2.2.2:=by kernel_rfl
def Qsg:Yc tb QhJ BO=some BO.2.2.2:=by kernel_rfl
end Go.Am
