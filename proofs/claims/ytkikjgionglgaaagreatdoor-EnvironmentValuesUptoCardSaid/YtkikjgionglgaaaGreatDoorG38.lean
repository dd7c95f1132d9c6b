/-
  EnM.
-/
import Derived.Test.YtkikjgionglgaaaGreatDoorG24
import Derived.Test.YtkikjgionglgaaaGreatDoorG25
import Derived.Test.YtkikjgionglgaaaGreatDoorG26
import Derived.Test.YtkikjgionglgaaaGreatDoorG27
import Derived.Test.YtkikjgionglgaaaGreatDoorG28
import Derived.Test.YtkikjgionglgaaaGreatDoorG29
import Derived.Test.YtkikjgionglgaaaGreatDoorG30
import Derived.Test.YtkikjgionglgaaaGreatDoorG31
import Derived.Test.YtkikjgionglgaaaGreatDoorG32
import Derived.Test.YtkikjgionglgaaaGreatDoorG33
import Derived.Test.YtkikjgionglgaaaGreatDoorG34
import Derived.Test.YtkikjgionglgaaaGreatDoorG35
import Derived.Test.YtkikjgionglgaaaGreatDoorG36
import Derived.Test.YtkikjgionglgaaaGreatDoorG37
import Derived.Test.YtkikjgionglgaaaGreatDoorG23
set_option linter.unusedVariables false
set_option linter.unusedSimpArgs false
namespace Go.Am
theorem Qay:Qk F.tb GM:=trivial
theorem Qaz:Qk F.tb GN:=⟨Qh Qay _ _ _ _ _ QfL,Qay⟩
theorem QaA:Qk F.tb GO:=⟨Qh Qaz _ _ _ _ _ QfM,Qaz⟩
theorem QaB:Qk F.tb GP:=⟨Qh QaA _ _ _ _ _ QfN,QaA⟩
theorem QaC:Qk F.tb GQ:=⟨Qh QaB _ _ _ _ _ QfO,QaB⟩
theorem QaD:Qk F.tb GR:=⟨Qh QaC _ _ _ _ _ QfP,QaC⟩
theorem QaE:Qk F.tb GS:=⟨Qh QaD _ _ _ _ _ QfQ,QaD⟩
theorem QaF:Qk F.tb GT:=⟨Qh QaE _ _ _ _ _ QfR,QaE⟩
theorem QaG:Qk F.tb GU:=⟨Qh QaF _ _ _ _ _ QfS,QaF⟩
theorem QaH:Qk F.tb GV:=⟨Qh QaG _ _ _ _ _ QfT,QaG⟩
theorem Ei:Qk F.tb LH:=⟨Qh QaH _ _ _ _ _ QfU,QaH⟩
theorem Ej:Qk F.tb LI:=⟨Qh Ei _ _ _ _ _ Qdl,Ei⟩
theorem Ek:Qk F.tb LJ:=⟨Qh Ej _ _ _ _ _ Qdm,Ej⟩
theorem Em:Qk F.tb LK:=⟨Qh Ek _ _ _ _ _ Qdn,Ek⟩
theorem Eo:Qk F.tb LL:=⟨Qh Em _ _ _ _ _ Qdo,Em⟩
theorem Ep:Qk F.tb LM:=⟨Qh Eo _ _ _ _ _ Qdp,Eo⟩
theorem Eq:Qk F.tb LN:=⟨Qh Ep _ _ _ _ _ Qdq,Ep⟩
theorem Er:Qk F.tb LO:=⟨Qh Eq _ _ _ _ _ Qdr,Eq⟩
theorem Et:Qk F.tb LP:=⟨Qh Er _ _ _ _ _ Qds,Er⟩
theorem Eu:Qk F.tb LQ:=⟨Qh Et _ _ _ _ _ Qdt,Et⟩
theorem Ev:Qk F.tb LR:=⟨Qh Eu _ _ _ _ _ Qdu,Eu⟩
theorem Ew:Qk F.tb LS:=⟨Qh Ev _ _ _ _ _ Qdv,Ev⟩
theorem Ey:Qk F.tb LT:=⟨Qh Ew _ _ _ _ _ Qdw,Ew⟩
theorem Ez:Qk F.tb LU:=⟨Qh Ey _ _ _ _ _ Qdx,Ey⟩
theorem EB:Qk F.tb LV:=⟨Qh Ez _ _ _ _ _ Qdy,Ez⟩
theorem EC:Qk F.tb LW:=⟨Qh EB _ _ _ _ _ Qdz,EB⟩
theorem ED:Qk F.tb LX:=⟨Qh EC _ _ _ _ _ QdA,EC⟩
theorem EE:Qk F.tb LY:=⟨Qh ED _ _ _ _ _ QdB,ED⟩
theorem EF:Qk F.tb LZ:=⟨Qh EE _ _ _ _ _ QdC,EE⟩
theorem EG:Qk F.tb L0:=⟨Qh EF _ _ _ _ _ QdD,EF⟩
theorem EH:Qk F.tb L1:=⟨Qh EG _ _ _ _ _ QdE,EG⟩
theorem EJ:Qk F.tb L2:=⟨Qh EH _ _ _ _ _ QdF,EH⟩
theorem EK:Qk F.tb L3:=⟨Qh EJ _ _ _ _ _ QdG,EJ⟩
theorem EL:Qk F.tb L4:=⟨Qh EK _ _ _ _ _ QdH,EK⟩
theorem EM:Qk F.tb L5:=⟨Qh EL _ _ _ _ _ QdI,EL⟩
theorem EN:Qk F.tb L6:=⟨Qh EM _ _ _ _ _ QdJ,EM⟩
theorem EO:Qk F.tb L7:=⟨Qh EN _ _ _ _ _ QdK,EN⟩
theorem EP:Qk F.tb L8:=⟨Qh EO _ _ _ _ _ QdL,EO⟩
theorem EQ:Qk F.tb L9:=⟨Qh EP _ _ _ _ _ QdM,EP⟩
theorem ER:Qk F.tb Ka:=⟨Qh EQ _ _ _ _ _ QdN,EQ⟩
theorem ES:Qk F.tb Kb:=⟨Qh ER _ _ _ _ _ QdO,ER⟩
theorem ET:Qk F.tb Kc:=⟨Qh ES _ _ _ _ _ QdP,ES⟩
theorem EU:Qk F.tb Kd:=⟨Qh ET _ _ _ _ _ QdQ,ET⟩
theorem EW:Qk F.tb Ke:=⟨Qh EU _ _ _ _ _ QdR,EU⟩
theorem EX:Qk F.tb Kf:=⟨Qh EW _ _ _ _ _ QdS,EW⟩
theorem EY:Qk F.tb Kg:=⟨Qh EX _ _ _ _ _ QdT,EX⟩
theorem EZ:Qk F.tb Kh:=⟨Qh EY _ _ _ _ _ QdU,EY⟩
theorem E0:Qk F.tb Ki:=⟨Qh EZ _ _ _ _ _ QdV,EZ⟩
theorem E5:Qk F.tb Kj:=⟨Qh E0 _ _ _ _ _ QdW,E0⟩
theorem E6:Qk F.tb Kk:=⟨Qh E5 _ _ _ _ _ QdX,E5⟩
theorem E7:Qk F.tb Kl:=⟨Qh E6 _ _ _ _ _ QdY,E6⟩
theorem E8:Qk F.tb Km:=⟨Qh E7 _ _ _ _ _ QdZ,E7⟩
theorem E9:Qk F.tb Ko:=⟨Qh E8 _ _ _ _ _ Qd0,E8⟩
theorem Da:Qk F.tb Kp:=⟨Qh E9 _ _ _ _ _ Qd1,E9⟩
theorem Db:Qk F.tb Kq:=⟨Qh Da _ _ _ _ _ Qd2,Da⟩
theorem Dc:Qk F.tb Kr:=⟨Qh Db _ _ _ _ _ Qd3,Db⟩
theorem Dd:Qk F.tb Ks:=⟨Qh Dc _ _ _ _ _ Qd4,Dc⟩
theorem De:Qk F.tb Kt:=⟨Qh Dd _ _ _ _ _ Qd5,Dd⟩
theorem Df:Qk F.tb Ku:=⟨Qh De _ _ _ _ _ Qd6,De⟩
theorem Dg:Qk F.tb Kv:=⟨Qh Df _ _ _ _ _ Qd7,Df⟩
theorem Dh:Qk F.tb Kw:=⟨Qh Dg _ _ _ _ _ Qd8,Dg⟩
theorem Di:Qk F.tb Kx:=⟨Qh Dh _ _ _ _ _ Qd9,Dh⟩
theorem Dj:Qk F.tb Ky:=⟨Qh Di _ _ _ _ _ Qea,Di⟩
theorem Dk:Qk F.tb Kz:=⟨Qh Dj _ _ _ _ _ Qeb,Dj⟩
theorem Dl:Qk F.tb KA:=⟨Qh Dk _ _ _ _ _ Qec,Dk⟩
theorem Dm:Qk F.tb KB:=⟨Qh Dl _ _ _ _ _ Qed,Dl⟩
theorem Dn:Qk F.tb KC:=⟨Qh Dm _ _ _ _ _ Qee,Dm⟩
theorem Do:Qk F.tb KD:=⟨Qh Dn _ _ _ _ _ Qef,Dn⟩
theorem Dp:Qk F.tb KE:=⟨Qh Do _ _ _ _ _ Qeg,Do⟩
theorem Dq:Qk F.tb KF:=⟨Qh Dp _ _ _ _ _ Qeh,Dp⟩
theorem Ds:Qk F.tb KH:=⟨Qh Dq _ _ _ _ _ Qei,Dq⟩
theorem Dt:Qk F.tb KI:=⟨Qh Ds _ _ _ _ _ Qej,Ds⟩
theorem Du:Qk F.tb KJ:=⟨Qh Dt _ _ _ _ _ Qek,Dt⟩
theorem Dv:Qk F.tb KL:=⟨Qh Du _ _ _ _ _ Qel,Du⟩
theorem Dw:Qk F.tb KN:=⟨Qh Dv _ _ _ _ _ Qem,Dv⟩
theorem Dx:Qk F.tb KO:=⟨Qh Dw _ _ _ _ _ Qen,Dw⟩
theorem Dy:Qk F.tb KP:=⟨Qh Dx _ _ _ _ _ Qeo,Dx⟩
theorem Dz:Qk F.tb KQ:=⟨Qh Dy _ _ _ _ _ Qep,Dy⟩
theorem DA:Qk F.tb KR:=⟨Qh Dz _ _ _ _ _ Qeq,Dz⟩
theorem DB:Qk F.tb KS:=⟨Qh DA _ _ _ _ _ Qer,DA⟩
theorem DC:Qk F.tb KT:=⟨Qh DB _ _ _ _ _ Qes,DB⟩
theorem DD:Qk F.tb KU:=⟨Qh DC _ _ _ _ _ Qet,DC⟩
theorem DE:Qk F.tb KV:=⟨Qh DD _ _ _ _ _ Qeu,DD⟩
theorem DG:Qk F.tb KW:=⟨Qh DE _ _ _ _ _ Qev,DE⟩
theorem DH:Qk F.tb KX:=⟨Qh DG _ _ _ _ _ Qew,DG⟩
theorem DI:Qk F.tb KY:=⟨Qh DH _ _ _ _ _ Qex,DH⟩
theorem DJ:Qk F.tb KZ:=⟨Qh DI _ _ _ _ _ Qey,DI⟩
theorem DK:Qk F.tb K0:=⟨Qh DJ _ _ _ _ _ Qez,DJ⟩
theorem DL:Qk F.tb K1:=⟨Qh DK _ _ _ _ _ QeA,DK⟩
theorem DM:Qk F.tb K2:=⟨Qh DL _ _ _ _ _ QeB,DL⟩
theorem DN:Qk F.tb K3:=⟨Qh DM _ _ _ _ _ QeC,DM⟩
theorem DO:Qk F.tb K4:=⟨Qh DN _ _ _ _ _ QeD,DN⟩
theorem DP:Qk F.tb K5:=⟨Qh DO _ _ _ _ _ QeE,DO⟩
theorem DQ:Qk F.tb K6:=⟨Qh DP _ _ _ _ _ QeF,DP⟩
theorem DR:Qk F.tb K7:=⟨Qh DQ _ _ _ _ _ QeG,DQ⟩
theorem DS:Qk F.tb K8:=⟨Qh DR _ _ _ _ _ QeH,DR⟩
theorem DU:Qk F.tb K9:=⟨Qh DS _ _ _ _ _ QeI,DS⟩
theorem DV:Qk F.tb Ja:=⟨Qh DU _ _ _ _ _ QeJ,DU⟩
theorem DW:Qk F.tb Jb:=⟨Qh DV _ _ _ _ _ QeK,DV⟩
theorem DX:Qk F.tb Jc:=⟨Qh DW _ _ _ _ _ QeL,DW⟩
theorem HB:Qk F.tb N0:=⟨Qh DX _ _ _ _ _ QeM,DX⟩
theorem HC:Qk F.tb N1:=⟨Qh HB _ _ _ _ _ QaV,HB⟩
theorem HD:Qk F.tb N2:=⟨Qh HC _ _ _ _ _ QaW,HC⟩
theorem HE:Qk F.tb N3:=⟨Qh HD _ _ _ _ _ QaX,HD⟩
theorem HF:Qk F.tb N4:=⟨Qh HE _ _ _ _ _ QaY,HE⟩
theorem HG:Qk F.tb N5:=⟨Qh HF _ _ _ _ _ QaZ,HF⟩
theorem HH:Qk F.tb N6:=⟨Qh HG _ _ _ _ _ Qa0,HG⟩
theorem HI:Qk F.tb N7:=⟨Qh HH _ _ _ _ _ Qa1,HH⟩
theorem HJ:Qk F.tb N8:=⟨Qh HI _ _ _ _ _ Qa2,HI⟩
theorem Qa4:Qk F.tb HA:=⟨Qh HJ _ _ _ _ _ Qa3,HJ⟩
theorem GL:Qq F.tb HA 400 477 [] []=some (.bool true,[]):=by kernel_rfl
theorem R9:call F.tb 477 [] []=some (.bool true,[]):=Qh Qa4 _ _ _ _ _ GL
end Go.Am
