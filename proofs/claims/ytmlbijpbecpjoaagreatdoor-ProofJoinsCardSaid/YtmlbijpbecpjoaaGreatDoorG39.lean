/-
  PfM12.
-/
import Derived.Test.YtmlbijpbecpjoaaGreatDoorG26
set_option linter.all false
open Go.Am.F
namespace Go.Am
def QkS:Q6 tb QbT Fb=some Fb.2.2.2:=by kernel_rfl
def QkT:Q6 tb QbU Fc=some Fc.2.2.2:=by kernel_rfl
def QkU:Q6 tb QbV Fe=some Fe.2.2.2:=by kernel_rfl
def QkV:Q6 tb QbW Ff=some Ff.2.2.2:=by kernel_rfl
def QkW:Q6 tb QbX Fg=some Fg.2.2.2:=by kernel_rfl
def QkX:Q6 tb QbY Fh=some Fh.2.2.2:=by kernel_rfl
end Go.Am
