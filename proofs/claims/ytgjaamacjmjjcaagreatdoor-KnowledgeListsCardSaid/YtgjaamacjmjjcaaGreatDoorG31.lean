/-
  KnN3.
-/
import Derived.Test.YtgjaamacjmjjcaaGreatDoorG27
set_option linter.all false
open Go.Am.F
namespace Go.Am
def QrM:Yb tb Qhf Ba=some Ba.2.2.2:=by kernel_rfl
def QrN:Yb tb Qhg Bd=some Bd.2.2.2:=by kernel_rfl
def QrO:Yb tb Qhh Be=some Be.2.2.2:=by kernel_rfl
def QrP:Yb tb Qhi Bg=some Bg.2.2.2:=by kernel_rfl
def QrQ:Yb tb Qhj Bh=some Bh.2.2.2:=by kernel_rfl
def QrR:Yb tb Qhk Bi=some Bi.2.2.2:=by kernel_rfl
def QrS:Yb tb Qhl Bj=some Bj.2.2.2:=by kernel_rfl
def QrT:Yb tb Qhm Bk=some Bk.2.2.2:=by kernel_rfl
end Go.Am
