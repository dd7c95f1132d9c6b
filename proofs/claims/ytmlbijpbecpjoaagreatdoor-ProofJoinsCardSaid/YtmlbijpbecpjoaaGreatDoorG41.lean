/-
  PfM14.
-/
import Derived.Test.YtmlbijpbecpjoaaGreatDoorG26
set_option linter.all false
open Go.Am.F
namespace Go.Am
def Qk4:Q6 tb Qb5 Fp=some Fp.2.2.2:=by kernel_rfl
def Qk5:Q6 tb Qb6 Fq=some Fq.2.2.2:=by kernel_rfl
def Qk6:Q6 tb Qb7 Fr=some Fr.2.2.2:=by kernel_rfl
def Qk7:Q6 tb Qb8 Fs=some Fs.2.2.2:=by kernel_rfl
def Qk8:Q6 tb Qb9 Ft=some Ft.2.2.2:=by kernel_rfl
def Qk9:Q6 tb Qca Fu=some Fu.2.2.2:=by kernel_rfl
end Go.Am
