/-
  ScM1.
-/
import Derived.Test.YtpgbndmkiiakaaaGreatDoorG24
set_option linter.unusedVariables false
set_option linter.unusedSimpArgs false
namespace Go.Am
theorem QiV:Ql F.tb EZ 400 OG.1 OG.2.1 OG.2.2.1=some (OG.2.2.2.1,OG.2.2.2.2):=by kernel_rfl
theorem QiW:Ql F.tb E0 400 OH.1 OH.2.1 OH.2.2.1=some (OH.2.2.2.1,OH.2.2.2.2):=by kernel_rfl
theorem Qgo:Ql F.tb Jm 400 Sk.1 Sk.2.1 Sk.2.2.1=some (Sk.2.2.2.1,Sk.2.2.2.2):=by kernel_rfl
theorem Qgp:Ql F.tb Jn 400 Sl.1 Sl.2.1 Sl.2.2.1=some (Sl.2.2.2.1,Sl.2.2.2.2):=by kernel_rfl
theorem Qgq:Ql F.tb Jo 400 Sm.1 Sm.2.1 Sm.2.2.1=some (Sm.2.2.2.1,Sm.2.2.2.2):=by kernel_rfl
theorem Qgr:Ql F.tb Jp 400 Sn.1 Sn.2.1 Sn.2.2.1=some (Sn.2.2.2.1,Sn.2.2.2.2):=by kernel_rfl
theorem Qgs:Ql F.tb Jq 400 So.1 So.2.1 So.2.2.1=some (So.2.2.2.1,So.2.2.2.2):=by kernel_rfl
theorem Qgt:Ql F.tb Jr 400 Sp.1 Sp.2.1 Sp.2.2.1=some (Sp.2.2.2.1,Sp.2.2.2.2):=by kernel_rfl
end Go.Am
