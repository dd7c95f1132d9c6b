/-
  ScM8.
-/
import Derived.Test.YtpgbndmkiiakaaaGreatDoorG24
set_option linter.unusedVariables false
set_option linter.unusedSimpArgs false
namespace Go.Am
theorem Qhg:Ql F.tb Ie 400 Rf.1 Rf.2.1 Rf.2.2.1=some (Rf.2.2.2.1,Rf.2.2.2.2):=by kernel_rfl
theorem Qhh:Ql F.tb Ig 400 Rg.1 Rg.2.1 Rg.2.2.1=some (Rg.2.2.2.1,Rg.2.2.2.2):=by kernel_rfl
theorem Qhi:Ql F.tb Ih 400 Rh.1 Rh.2.1 Rh.2.2.1=some (Rh.2.2.2.1,Rh.2.2.2.2):=by kernel_rfl
theorem Qhj:Ql F.tb Ii 400 Ri.1 Ri.2.1 Ri.2.2.1=some (Ri.2.2.2.1,Ri.2.2.2.2):=by kernel_rfl
theorem Qhk:Ql F.tb Ij 400 Rj.1 Rj.2.1 Rj.2.2.1=some (Rj.2.2.2.1,Rj.2.2.2.2):=by kernel_rfl
theorem Qhl:Ql F.tb Ik 400 Rk.1 Rk.2.1 Rk.2.2.1=some (Rk.2.2.2.1,Rk.2.2.2.2):=by kernel_rfl
theorem Qhm:Ql F.tb Il 400 Rl.1 Rl.2.1 Rl.2.2.1=some (Rl.2.2.2.1,Rl.2.2.2.2):=by kernel_rfl
theorem Qhn:Ql F.tb Im 400 Rm.1 Rm.2.1 Rm.2.2.1=some (Rm.2.2.2.1,Rm.2.2.2.2):=by kernel_rfl
end Go.Am
