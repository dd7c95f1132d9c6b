/-
  KnN6.
-/
import Derived.Test.YtgjaamacjmjjcaaGreatDoorG27
set_option linter.all false
open Go.Am.F
namespace Go.Am
def Qsa:Yb tb QhD BG=some BG.2.2.2:=by kernel_rfl
def Qsb:Yb tb QhE BH=some BH.2.2.2:=by kernel_rfl
def Qsc:Yb tb QhF BI=some BI.2.2.2:=by kernel_rfl
def Qsd:Yb tb QhG BJ=some BJ.2.2.2:=by kernel_rfl
def Qse:Yb tb QhH BK=some BK.2.2.2:=by kernel_rfl
def Qsf:Yb tb QhI BL=some BL.2.2.2:=by kernel_rfl
def Qsg:Yb tb QhJ BN=some BN.2.2.2:=by kernel_rfl
def Qsh:Yb tb QhK BO=some BO.2.2.2:=by kernel_rfl
end Go.Am
