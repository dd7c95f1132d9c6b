/-
  KnN7.
-/
import Derived.Test.YtgjaamacjmjjcaaGreatDoorG27
set_option linter.all false
open Go.Am.F
namespace Go.Am
def Qsh:Yc tb QhK BP=some BP.2.2.2:=by kernel_rfl
def Qsi:Yc tb QhL BQ=some BQ.2.2.2:=by kernel_rfl
def Qsj:Yc tb QhM BR=some BR.2.2.2:=by kernel_rfl
def Qsk:Yc tb QhN BS=some BS.2.2.2:=by kernel_rfl
end Go.Am
