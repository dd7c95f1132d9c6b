/-
  PfM13.
-/
import Derived.Test.YtmlbinmlblbfgaaGreatDoorG22
set_option linter.all false
open Go.Am.F
namespace Go.Am
def Qfd:QQ tb DU Jc=some Jc.2.2.2:=by kernel_rfl
def Qfe:QQ tb DV Jd=some Jd.2.2.2:=by kernel_rfl
def Qff:QQ tb DW Je=some Je.2.2.2:=by kernel_rfl
def Qfg:QQ tb DX Jf=some Jf.2.2.2:=by kernel_rfl
def Qfh:QQ tb DY Jg=some Jg.2.2.2:=by kernel_rfl
def Qfi:QQ tb DZ Jh=some Jh.2.2.2:=by kernel_rfl
end Go.Am
