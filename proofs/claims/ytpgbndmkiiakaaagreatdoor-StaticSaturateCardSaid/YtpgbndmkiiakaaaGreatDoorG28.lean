/-
  ScM1.
-/
import Derived.Test.YtpgbndmkiiakaaaGreatDoorG26
set_option linter.unusedVariables false
set_option linter.unusedSimpArgs false
namespace Go.Am
theorem Qlf:Qn F.tb Cs 400 NQ.1 NQ.2.1 NQ.2.2.1=some (NQ.2.2.2.1,NQ.2.2.2.2):=by kernel_rfl
theorem Qlg:Qn F.tb Ct 400 NR.1 NR.2.1 NR.2.2.1=some (NR.2.2.2.1,NR.2.2.2.2):=by kernel_rfl
theorem Qim:Qn F.tb Ij 400 Rh.1 Rh.2.1 Rh.2.2.1=some (Rh.2.2.2.1,Rh.2.2.2.2):=by kernel_rfl
theorem Qin:Qn F.tb Ik 400 Ri.1 Ri.2.1 Ri.2.2.1=some (Ri.2.2.2.1,Ri.2.2.2.2):=by kernel_rfl
theorem Qio:Qn F.tb Il 400 Rj.1 Rj.2.1 Rj.2.2.1=some (Rj.2.2.2.1,Rj.2.2.2.2):=by kernel_rfl
theorem Qip:Qn F.tb Im 400 Rk.1 Rk.2.1 Rk.2.2.1=some (Rk.2.2.2.1,Rk.2.2.2.2):=by kernel_rfl
theorem Qiq:Qn F.tb Io 400 Rl.1 Rl.2.1 Rl.2.2.1=some (Rl.2.2.2.1,Rl.2.2.2.2):=by kernel_rfl
theorem Qir:Qn F.tb Ip 400 Rm.1 Rm.2.1 Rm.2.2.1=some (Rm.2.2.2.1,Rm.2.2.2.2):=by kernel_rfl
end Go.Am
