/-
  EnM11.
-/
import Derived.Test.YtpdmcibimbjknaaGreatDoorG25
set_option linter.unusedVariables false
set_option linter.unusedSimpArgs false
namespace Go.Am
theorem Qgo:Qs F.tb JS 400 Rz.1 Rz.2.1 Rz.2.2.1=some (Rz.2.2.2.1,Rz.2.2.2.2):=by kernel_rfl
theorem Qgp:Qs F.tb JT 400 RA.1 RA.2.1 RA.2.2.1=some (RA.2.2.2.1,RA.2.2.2.2):=by kernel_rfl
theorem Qgq:Qs F.tb JU 400 RB.1 RB.2.1 RB.2.2.1=some (RB.2.2.2.1,RB.2.2.2.2):=by kernel_rfl
theorem Qgr:Qs F.tb JV 400 RC.1 RC.2.1 RC.2.2.1=some (RC.2.2.2.1,RC.2.2.2.2):=by kernel_rfl
theorem Qgs:Qs F.tb JW 400 RD.1 RD.2.1 RD.2.2.1=some (RD.2.2.2.1,RD.2.2.2.2):=by kernel_rfl
theorem Qgt:Qs F.tb JX 400 RE.1 RE.2.1 RE.2.2.1=some (RE.2.2.2.1,RE.2.2.2.2):=by kernel_rfl
theorem Qgu:Qs F.tb JY 400 RF.1 RF.2.1 RF.2.2.1=some (RF.2.2.2.1,RF.2.2.2.2):=by kernel_rfl
theorem Qgv:Qs F.tb JZ 400 RG.1 RG.2.1 RG.2.2.1=some (RG.2.2.2.1,RG.2.2.2.2):=by kernel_rfl
end Go.Am
