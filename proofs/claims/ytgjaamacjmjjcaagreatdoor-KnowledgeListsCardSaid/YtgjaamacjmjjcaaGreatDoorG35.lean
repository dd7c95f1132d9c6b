/-
  KnN7.
-/
import Derived.Test.YtgjaamacjmjjcaaGreatDoorG27
set_option linter.all false
open Go.Am.F
namespace Go.Am
def Qsi:Yb tb QhL BP=some BP.2.2.2:=by kernel_rfl
def Qsj:Yb tb QhM BQ=some BQ.2.2.2:=by kernel_rfl
def Qsk:Yb tb QhN BR=some BR.2.2.2:=by kernel_rfl
def Qsl:Yb tb QhO BS=some BS.2.2.2:=by kernel_rfl
end Go.Am
