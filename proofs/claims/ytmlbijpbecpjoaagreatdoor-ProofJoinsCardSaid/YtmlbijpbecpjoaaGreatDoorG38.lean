/-
  PfM11.
-/
import Derived.Test.YtmlbijpbecpjoaaGreatDoorG26
set_option linter.all false
open Go.Am.F
namespace Go.Am
def QkM:Q6 tb QbN G5=some G5.2.2.2:=by kernel_rfl
def QkN:Q6 tb QbO G6=some G6.2.2.2:=by kernel_rfl
def QkO:Q6 tb QbP G7=some G7.2.2.2:=by kernel_rfl
def QkP:Q6 tb QbQ G8=some G8.2.2.2:=by kernel_rfl
def QkQ:Q6 tb QbR G9=some G9.2.2.2:=by kernel_rfl
def QkR:Q6 tb QbS Fa=some Fa.2.2.2:=by kernel_rfl
end Go.Am
