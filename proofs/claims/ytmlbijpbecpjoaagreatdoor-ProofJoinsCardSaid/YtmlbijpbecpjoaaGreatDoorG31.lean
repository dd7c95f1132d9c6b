/-
  PfM4.
-/
import Derived.Test.YtmlbijpbecpjoaaGreatDoorG26
set_option linter.all false
open Go.Am.F
namespace Go.Am
def Qj6:Q6 tb Qa7 Gp=some Gp.2.2.2:=by kernel_rfl
def Qj7:Q6 tb Qa8 Gq=some Gq.2.2.2:=by kernel_rfl
def Qj8:Q6 tb Qa9 Gr=some Gr.2.2.2:=by kernel_rfl
def Qj9:Q6 tb Qba Gs=some Gs.2.2.2:=by kernel_rfl
def Qka:Q6 tb Qbb Gt=some Gt.2.2.2:=by kernel_rfl
def Qkb:Q6 tb Qbc Gu=some Gu.2.2.2:=by kernel_rfl
end Go.Am
