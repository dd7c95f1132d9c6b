/-
  PfM2.
-/
import Derived.Test.YtmlbijpbecpjoaaGreatDoorG26
set_option linter.all false
open Go.Am.F
namespace Go.Am
def QjU:Q6 tb QaV Ga=some Ga.2.2.2:=by kernel_rfl
def QjV:Q6 tb QaW Gc=some Gc.2.2.2:=by kernel_rfl
def QjW:Q6 tb QaX Gd=some Gd.2.2.2:=by kernel_rfl
def QjX:Q6 tb QaY Gf=some Gf.2.2.2:=by kernel_rfl
def QjY:Q6 tb QaZ Gg=some Gg.2.2.2:=by kernel_rfl
def QjZ:Q6 tb Qa0 Gh=some Gh.2.2.2:=by kernel_rfl
end Go.Am
