/-
  KnN5.
-/
import Derived.Test.YthlnfdbbneaelaaGreatDoorG27
set_option linter.all false
open Go.Am.F
namespace Go.Am
def QrJ:Yi tb QgU Cy=some Cy.2.2.2:=by kernel_rfl
def QrK:Yi tb QgV Cz=some Cz.2.2.2:=by kernel_rfl
def QrL:Yi tb QgW CA=some CA.2.2.2:=by kernel_rfl
def QrM:Yi tb QgX CB=some CB.2.2.2:=by kernel_rfl
end Go.Am
