/-
  KnN4.
-/
import Derived.Test.YthlnfdbbneaelaaGreatDoorG27
set_option linter.all false
open Go.Am.F
namespace Go.Am
def QrF:Yi tb QgQ Cu=some Cu.2.2.2:=by kernel_rfl
def QrG:Yi tb QgR Cv=some Cv.2.2.2:=by kernel_rfl
def QrH:Yi tb QgS Cw=some Cw.2.2.2:=by kernel_rfl
def QrI:Yi tb QgT Cx=some Cx.2.2.2:=by kernel_rfl
end Go.Am
