/-
  PfM7.
-/
import Derived.Test.YtmlbijpbecpjoaaGreatDoorG26
set_option linter.all false
open Go.Am.F
namespace Go.Am
def Qko:Q6 tb Qbp GH=some GH.2.2.2:=by kernel_rfl
def Qkp:Q6 tb Qbq GI=some GI.2.2.2:=by kernel_rfl
def Qkq:Q6 tb Qbr GJ=some GJ.2.2.2:=by kernel_rfl
def Qkr:Q6 tb Qbs GK=some GK.2.2.2:=by kernel_rfl
def Qks:Q6 tb Qbt GL=some GL.2.2.2:=by kernel_rfl
def Qkt:Q6 tb Qbu GM=some GM.2.2.2:=by kernel_rfl
end Go.Am
