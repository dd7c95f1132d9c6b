/-
  ScM10.
-/
import Derived.Test.YtpgbndmkiiakaaaGreatDoorG27
set_option linter.unusedVariables false
set_option linter.unusedSimpArgs false
namespace Go.Am
theorem Ql2:Qn F.tb Fq 400 Ov.1 Ov.2.1 Ov.2.2.1=some (Ov.2.2.2.1,Ov.2.2.2.2):=by kernel_rfl
theorem Ql3:Qn F.tb Fs 400 Ow.1 Ow.2.1 Ow.2.2.1=some (Ow.2.2.2.1,Ow.2.2.2.2):=by kernel_rfl
theorem Ql4:Qn F.tb Ft 400 Ox.1 Ox.2.1 Ox.2.2.1=some (Ox.2.2.2.1,Ox.2.2.2.2):=by kernel_rfl
theorem Ql5:Qn F.tb Fu 400 Oy.1 Oy.2.1 Oy.2.2.1=some (Oy.2.2.2.1,Oy.2.2.2.2):=by kernel_rfl
theorem Ql6:Qn F.tb Fv 400 Oz.1 Oz.2.1 Oz.2.2.1=some (Oz.2.2.2.1,Oz.2.2.2.2):=by kernel_rfl
theorem Ql7:Qn F.tb Fw 400 OA.1 OA.2.1 OA.2.2.1=some (OA.2.2.2.1,OA.2.2.2.2):=by kernel_rfl
theorem Ql8:Qn F.tb Fx 400 OB.1 OB.2.1 OB.2.2.1=some (OB.2.2.2.1,OB.2.2.2.2):=by kernel_rfl
theorem Ql9:Qn F.tb Fy 400 OC.1 OC.2.1 OC.2.2.1=some (OC.2.2.2.1,OC.2.2.2.2):=by kernel_rfl
end Go.Am
