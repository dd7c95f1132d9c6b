/-
  EnM.
-/
import Derived.Test.YtpdmcibimbjknaaGreatDoorG26
import Derived.Test.YtpdmcibimbjknaaGreatDoorG27
import Derived.Test.YtpdmcibimbjknaaGreatDoorG28
import Derived.Test.YtpdmcibimbjknaaGreatDoorG29
import Derived.Test.YtpdmcibimbjknaaGreatDoorG30
import Derived.Test.YtpdmcibimbjknaaGreatDoorG31
import Derived.Test.YtpdmcibimbjknaaGreatDoorG32
import Derived.Test.YtpdmcibimbjknaaGreatDoorG33
import Derived.Test.YtpdmcibimbjknaaGreatDoorG34
import Derived.Test.YtpdmcibimbjknaaGreatDoorG35
import Derived.Test.YtpdmcibimbjknaaGreatDoorG36
import Derived.Test.YtpdmcibimbjknaaGreatDoorG37
import Derived.Test.YtpdmcibimbjknaaGreatDoorG38
import Derived.Test.YtpdmcibimbjknaaGreatDoorG39
import Derived.Test.YtpdmcibimbjknaaGreatDoorG25
set_option linter.unusedVariables false
set_option linter.unusedSimpArgs false
namespace Go.Am
theorem QbU:Ql F.tb FI:=trivial
theorem QbV:Ql F.tb FJ:=⟨Qj QbU _ _ _ _ _ QhN,QbU⟩
theorem QbW:Ql F.tb FK:=⟨Qj QbV _ _ _ _ _ QhO,QbV⟩
theorem QbX:Ql F.tb FL:=⟨Qj QbW _ _ _ _ _ QhP,QbW⟩
theorem QbY:Ql F.tb FM:=⟨Qj QbX _ _ _ _ _ QhQ,QbX⟩
theorem QbZ:Ql F.tb FN:=⟨Qj QbY _ _ _ _ _ QhR,QbY⟩
theorem Qb0:Ql F.tb FO:=⟨Qj QbZ _ _ _ _ _ QhS,QbZ⟩
theorem Qb1:Ql F.tb FP:=⟨Qj Qb0 _ _ _ _ _ QhT,Qb0⟩
theorem Qb2:Ql F.tb FQ:=⟨Qj Qb1 _ _ _ _ _ QhU,Qb1⟩
theorem Qb3:Ql F.tb FR:=⟨Qj Qb2 _ _ _ _ _ QhV,Qb2⟩
theorem Ds:Ql F.tb Kz:=⟨Qj Qb3 _ _ _ _ _ QhW,Qb3⟩
theorem Dt:Ql F.tb KA:=⟨Qj Ds _ _ _ _ _ Qe8,Ds⟩
theorem Du:Ql F.tb KB:=⟨Qj Dt _ _ _ _ _ Qe9,Dt⟩
theorem Dv:Ql F.tb KC:=⟨Qj Du _ _ _ _ _ Qfa,Du⟩
theorem Dw:Ql F.tb KD:=⟨Qj Dv _ _ _ _ _ Qfb,Dv⟩
theorem Dx:Ql F.tb KE:=⟨Qj Dw _ _ _ _ _ Qfc,Dw⟩
theorem Dy:Ql F.tb KF:=⟨Qj Dx _ _ _ _ _ Qfd,Dx⟩
theorem Dz:Ql F.tb KH:=⟨Qj Dy _ _ _ _ _ Qfe,Dy⟩
theorem DA:Ql F.tb KI:=⟨Qj Dz _ _ _ _ _ Qff,Dz⟩
theorem DB:Ql F.tb KJ:=⟨Qj DA _ _ _ _ _ Qfg,DA⟩
theorem DC:Ql F.tb KL:=⟨Qj DB _ _ _ _ _ Qfh,DB⟩
theorem DD:Ql F.tb KN:=⟨Qj DC _ _ _ _ _ Qfi,DC⟩
theorem DE:Ql F.tb KO:=⟨Qj DD _ _ _ _ _ Qfj,DD⟩
theorem DG:Ql F.tb KP:=⟨Qj DE _ _ _ _ _ Qfk,DE⟩
theorem DH:Ql F.tb KQ:=⟨Qj DG _ _ _ _ _ Qfl,DG⟩
theorem DI:Ql F.tb KR:=⟨Qj DH _ _ _ _ _ Qfm,DH⟩
theorem DJ:Ql F.tb KS:=⟨Qj DI _ _ _ _ _ Qfn,DI⟩
theorem DK:Ql F.tb KT:=⟨Qj DJ _ _ _ _ _ Qfo,DJ⟩
theorem DL:Ql F.tb KU:=⟨Qj DK _ _ _ _ _ Qfp,DK⟩
theorem DM:Ql F.tb KV:=⟨Qj DL _ _ _ _ _ Qfq,DL⟩
theorem DN:Ql F.tb KW:=⟨Qj DM _ _ _ _ _ Qfr,DM⟩
theorem DO:Ql F.tb KX:=⟨Qj DN _ _ _ _ _ Qfs,DN⟩
theorem DP:Ql F.tb KY:=⟨Qj DO _ _ _ _ _ Qft,DO⟩
theorem DQ:Ql F.tb KZ:=⟨Qj DP _ _ _ _ _ Qfu,DP⟩
theorem DR:Ql F.tb K0:=⟨Qj DQ _ _ _ _ _ Qfv,DQ⟩
theorem DS:Ql F.tb K1:=⟨Qj DR _ _ _ _ _ Qfw,DR⟩
theorem DU:Ql F.tb K2:=⟨Qj DS _ _ _ _ _ Qfx,DS⟩
theorem DV:Ql F.tb K3:=⟨Qj DU _ _ _ _ _ Qfy,DU⟩
theorem DW:Ql F.tb K4:=⟨Qj DV _ _ _ _ _ Qfz,DV⟩
theorem DX:Ql F.tb K5:=⟨Qj DW _ _ _ _ _ QfA,DW⟩
theorem DY:Ql F.tb K6:=⟨Qj DX _ _ _ _ _ QfB,DX⟩
theorem DZ:Ql F.tb K7:=⟨Qj DY _ _ _ _ _ QfC,DY⟩
theorem D0:Ql F.tb K8:=⟨Qj DZ _ _ _ _ _ QfD,DZ⟩
theorem D4:Ql F.tb K9:=⟨Qj D0 _ _ _ _ _ QfE,D0⟩
theorem D5:Ql F.tb Ja:=⟨Qj D4 _ _ _ _ _ QfF,D4⟩
theorem D6:Ql F.tb Jb:=⟨Qj D5 _ _ _ _ _ QfG,D5⟩
theorem D7:Ql F.tb Jc:=⟨Qj D6 _ _ _ _ _ QfH,D6⟩
theorem D8:Ql F.tb Jd:=⟨Qj D7 _ _ _ _ _ QfI,D7⟩
theorem D9:Ql F.tb Je:=⟨Qj D8 _ _ _ _ _ QfJ,D8⟩
theorem Ca:Ql F.tb Jf:=⟨Qj D9 _ _ _ _ _ QfK,D9⟩
theorem Cb:Ql F.tb Jg:=⟨Qj Ca _ _ _ _ _ QfL,Ca⟩
theorem Cc:Ql F.tb Jh:=⟨Qj Cb _ _ _ _ _ QfM,Cb⟩
theorem Cd:Ql F.tb Ji:=⟨Qj Cc _ _ _ _ _ QfN,Cc⟩
theorem Ce:Ql F.tb Jj:=⟨Qj Cd _ _ _ _ _ QfO,Cd⟩
theorem Cf:Ql F.tb Jk:=⟨Qj Ce _ _ _ _ _ QfP,Ce⟩
theorem Cg:Ql F.tb Jl:=⟨Qj Cf _ _ _ _ _ QfQ,Cf⟩
theorem Ci:Ql F.tb Jm:=⟨Qj Cg _ _ _ _ _ QfR,Cg⟩
theorem Cj:Ql F.tb Jn:=⟨Qj Ci _ _ _ _ _ QfS,Ci⟩
theorem Ck:Ql F.tb Jo:=⟨Qj Cj _ _ _ _ _ QfT,Cj⟩
theorem Cl:Ql F.tb Jp:=⟨Qj Ck _ _ _ _ _ QfU,Ck⟩
theorem Cm:Ql F.tb Jq:=⟨Qj Cl _ _ _ _ _ QfV,Cl⟩
theorem Cn:Ql F.tb Jr:=⟨Qj Cm _ _ _ _ _ QfW,Cm⟩
theorem Co:Ql F.tb Js:=⟨Qj Cn _ _ _ _ _ QfX,Cn⟩
theorem Cp:Ql F.tb Jt:=⟨Qj Co _ _ _ _ _ QfY,Co⟩
theorem Cq:Ql F.tb Ju:=⟨Qj Cp _ _ _ _ _ QfZ,Cp⟩
theorem Cr:Ql F.tb Jv:=⟨Qj Cq _ _ _ _ _ Qf0,Cq⟩
theorem Cs:Ql F.tb Jw:=⟨Qj Cr _ _ _ _ _ Qf1,Cr⟩
theorem Ct:Ql F.tb Jx:=⟨Qj Cs _ _ _ _ _ Qf2,Cs⟩
theorem Cu:Ql F.tb Jy:=⟨Qj Ct _ _ _ _ _ Qf3,Ct⟩
theorem Cv:Ql F.tb Jz:=⟨Qj Cu _ _ _ _ _ Qf4,Cu⟩
theorem Cw:Ql F.tb JA:=⟨Qj Cv _ _ _ _ _ Qf5,Cv⟩
theorem Cx:Ql F.tb JB:=⟨Qj Cw _ _ _ _ _ Qf6,Cw⟩
theorem Cy:Ql F.tb JC:=⟨Qj Cx _ _ _ _ _ Qf7,Cx⟩
theorem Cz:Ql F.tb JD:=⟨Qj Cy _ _ _ _ _ Qf8,Cy⟩
theorem CA:Ql F.tb JE:=⟨Qj Cz _ _ _ _ _ Qf9,Cz⟩
theorem CB:Ql F.tb JF:=⟨Qj CA _ _ _ _ _ Qga,CA⟩
theorem CD:Ql F.tb JG:=⟨Qj CB _ _ _ _ _ Qgb,CB⟩
theorem CE:Ql F.tb JH:=⟨Qj CD _ _ _ _ _ Qgc,CD⟩
theorem CF:Ql F.tb JI:=⟨Qj CE _ _ _ _ _ Qgd,CE⟩
theorem CG:Ql F.tb JJ:=⟨Qj CF _ _ _ _ _ Qge,CF⟩
theorem CH:Ql F.tb JK:=⟨Qj CG _ _ _ _ _ Qgf,CG⟩
theorem CI:Ql F.tb JL:=⟨Qj CH _ _ _ _ _ Qgg,CH⟩
theorem CJ:Ql F.tb JM:=⟨Qj CI _ _ _ _ _ Qgh,CI⟩
theorem CK:Ql F.tb JN:=⟨Qj CJ _ _ _ _ _ Qgi,CJ⟩
theorem CL:Ql F.tb JO:=⟨Qj CK _ _ _ _ _ Qgj,CK⟩
theorem CM:Ql F.tb JP:=⟨Qj CL _ _ _ _ _ Qgk,CL⟩
theorem CN:Ql F.tb JQ:=⟨Qj CM _ _ _ _ _ Qgl,CM⟩
theorem CO:Ql F.tb JR:=⟨Qj CN _ _ _ _ _ Qgm,CN⟩
theorem CP:Ql F.tb JS:=⟨Qj CO _ _ _ _ _ Qgn,CO⟩
theorem CQ:Ql F.tb JT:=⟨Qj CP _ _ _ _ _ Qgo,CP⟩
theorem CR:Ql F.tb JU:=⟨Qj CQ _ _ _ _ _ Qgp,CQ⟩
theorem CS:Ql F.tb JV:=⟨Qj CR _ _ _ _ _ Qgq,CR⟩
theorem CT:Ql F.tb JW:=⟨Qj CS _ _ _ _ _ Qgr,CS⟩
theorem CU:Ql F.tb JX:=⟨Qj CT _ _ _ _ _ Qgs,CT⟩
theorem CV:Ql F.tb JY:=⟨Qj CU _ _ _ _ _ Qgt,CU⟩
theorem CW:Ql F.tb JZ:=⟨Qj CV _ _ _ _ _ Qgu,CV⟩
theorem CX:Ql F.tb J0:=⟨Qj CW _ _ _ _ _ Qgv,CW⟩
theorem CY:Ql F.tb J1:=⟨Qj CX _ _ _ _ _ Qgw,CX⟩
theorem CZ:Ql F.tb J2:=⟨Qj CY _ _ _ _ _ Qgx,CY⟩
theorem C0:Ql F.tb J3:=⟨Qj CZ _ _ _ _ _ Qgy,CZ⟩
theorem Gz:Ql F.tb MQ:=⟨Qj C0 _ _ _ _ _ Qgz,C0⟩
theorem GA:Ql F.tb MR:=⟨Qj Gz _ _ _ _ _ Qcg,Gz⟩
theorem GB:Ql F.tb MS:=⟨Qj GA _ _ _ _ _ Qch,GA⟩
theorem GC:Ql F.tb MT:=⟨Qj GB _ _ _ _ _ Qci,GB⟩
theorem GD:Ql F.tb MU:=⟨Qj GC _ _ _ _ _ Qcj,GC⟩
theorem GE:Ql F.tb MV:=⟨Qj GD _ _ _ _ _ Qck,GD⟩
theorem GF:Ql F.tb MW:=⟨Qj GE _ _ _ _ _ Qcl,GE⟩
theorem GG:Ql F.tb MY:=⟨Qj GF _ _ _ _ _ Qcm,GF⟩
theorem GH:Ql F.tb MZ:=⟨Qj GG _ _ _ _ _ Qcn,GG⟩
theorem Qcp:Ql F.tb Gy:=⟨Qj GH _ _ _ _ _ Qco,GH⟩
theorem FH:Qs F.tb Gy 400 477 [] []=some (.bool true,[]):=by kernel_rfl
theorem Dq:call F.tb 477 [] []=some (.bool true,[]):=Qj Qcp _ _ _ _ _ FH
end Go.Am
