/-
  EnM9.
-/
import Derived.Test.YtpdmcibimbjknaaGreatDoorG25
set_option linter.unusedVariables false
set_option linter.unusedSimpArgs false
namespace Go.Am
theorem Qf8:Qs F.tb JC 400 Rj.1 Rj.2.1 Rj.2.2.1=some (Rj.2.2.2.1,Rj.2.2.2.2):=by kernel_rfl
theorem Qf9:Qs F.tb JD 400 Rk.1 Rk.2.1 Rk.2.2.1=some (Rk.2.2.2.1,Rk.2.2.2.2):=by kernel_rfl
theorem Qga:Qs F.tb JE 400 Rl.1 Rl.2.1 Rl.2.2.1=some (Rl.2.2.2.1,Rl.2.2.2.2):=by kernel_rfl
theorem Qgb:Qs F.tb JF 400 Rm.1 Rm.2.1 Rm.2.2.1=some (Rm.2.2.2.1,Rm.2.2.2.2):=by kernel_rfl
theorem Qgc:Qs F.tb JG 400 Rn.1 Rn.2.1 Rn.2.2.1=some (Rn.2.2.2.1,Rn.2.2.2.2):=by kernel_rfl
theorem Qgd:Qs F.tb JH 400 Ro.1 Ro.2.1 Ro.2.2.1=some (Ro.2.2.2.1,Ro.2.2.2.2):=by kernel_rfl
theorem Qge:Qs F.tb JI 400 Rp.1 Rp.2.1 Rp.2.2.1=some (Rp.2.2.2.1,Rp.2.2.2.2):=by kernel_rfl
theorem Qgf:Qs F.tb JJ 400 Rq.1 Rq.2.1 Rq.2.2.1=some (Rq.2.2.2.1,Rq.2.2.2.2):=by kernel_rfl
end Go.Am
