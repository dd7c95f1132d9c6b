/-
  KnN3.
-/
import Derived.Test.YtgjaamacjmjjcaaGreatDoorG27
set_option linter.all false
open Go.Am.F
namespace Go.Am
def QrL:Yc tb Qhe Ba=some Ba.2.2.2:=by kernel_rfl
def QrM:Yc tb Qhf Bd=some Bd.2.2.2:=by kernel_rfl
def QrN:Yc tb Qhg Be=some Be.2.2.2:=by kernel_rfl
def QrO:Yc tb Qhh Bg=some Bg.2.2.2:=by kernel_rfl
def QrP:Yc tb Qhi Bh=some Bh.2.2.2:=by kernel_rfl
def QrQ:Yc tb Qhj Bi=some Bi.2.2.2:=by kernel_rfl
def QrR:Yc tb Qhk Bj=some Bj.2.2.2:=by kernel_rfl
def QrS:Yc tb Qhl Bk=some Bk.2.2.2:=by kernel_rfl
end Go.Am
