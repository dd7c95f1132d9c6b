/-
  AmMemo, ScMD.
-/
import Derived.Test.YtpgbndmkiiakaaaGreatDoorG14
import Derived.KernelRfl
set_option linter.unusedVariables false
set_option linter.unusedSimpArgs false
namespace Go.Am
theorem Ga {T:Nat→Option AFn} {K:Zx} (h:KLe K (call T)) {n:Nat}: ∀{c:AC} {σ:St} {x:Ex×St},QZ K n c σ=some x→run T c σ=some x:=by
 intro c
 induction c with
 | bad=>intro σ x he;simp[QZ]at he
 | skip=>intro σ x he;rw[Gg];exact he
 | ret=>intro σ x he;rw[Ez];exact he
 | exit id=>intro σ x he;rw[Gd];exact he
 | reg d ops=>
  intro σ x he
  rw[Ey]
  simp only[QZ]at he
  cases hr:Zk K ops σ with
  | none=>rw[hr]at he;cases he
  | some s=>rw[W4 h hr];rw[hr]at he;exact he
 | seq a b iha ihb=>
  intro σ x he
  rw[EA]
  simp only[QZ]at he
  cases ha:QZ K n a σ with
  | none=>rw[ha]at he;cases he
  | some p=>
   obtain⟨e,s⟩:=p
   rw[ha]at he
   rw[iha ha]
   cases e
   ·exact ihb he
   ·exact he
   ·exact he
 | cond c a b iha ihb=>
  intro σ x he
  rw[Gc]
  simp only[QZ]at he
  split at he
  ·rename_i hv;rw[hv];exact iha he
  ·rename_i hv;rw[hv];exact ihb he
  ·cases he
 | block id c ih=>
  intro σ x he
  rw[KO]
  simp only[QZ]at he
  cases ha:QZ K n c σ with
  | none=>rw[ha]at he;cases he
  | some p=>rw[ha]at he;rw[ih ha];exact he
 | loop c ih=>
  intro σ x he
  simp only[QZ]at he
  have key: ∀(m:Nat) (σ:St) (x:Ex×St),WV (QZ K n c) m σ=some x→run T (.loop c) σ=some x:=by
   intro m
   induction m with
   | zero=>intro σ x he;simp[WV]at he
   | succ m IH=>
    intro σ x he
    rw[Gf]
    simp only[WV]at he
    cases ha:QZ K n c σ with
    | none=>rw[ha]at he;cases he
    | some p=>
     obtain⟨e,s⟩:=p
     rw[ha]at he
     rw[ih ha]
     cases e
     ·exact IH _ _ he
     ·exact he
     ·exact he
  exact key n σ x he
abbrev Qe:=Nat×List AV×List (List AV)×AV×List (List AV)
def MC:List Qe→Nat→List AV→List (List AV)→Option (AV×List (List AV))
 | [],_,_,_=>none
 | (g,ar,b,v,b2):: fs,f,args,bs=>if(g == f && eqVE b bs && eqVL ar args)=true then some (v,b2)else MC fs f args bs
def Ql (T:Nat→Option AFn) (fs:List Qe):Nat→Zx
 | 0,_,_,_=>none
 | n+1,f,args,bs=>match MC fs f args bs with
  | some r=>some r
  | none=>match T f with
   | none=>none
   | some (.orc g)=>g args bs
   | some (.code fn)=>
    if args.length=fn.nparams then
     match QZ (Ql T fs n) n fn.body {env:=Yg args,bs}with
     | some (.normal,σ)=>Z3 fn bs σ
     | some (.ret,σ)=>Z3 fn bs σ
     | _=>none
    else none
def Qh (T:Nat→Option AFn):List Qe→Prop
 | []=>True
 | (g,ar,b,v,b2):: fs=>call T g ar b=some (v,b2)∧Qh T fs
theorem HQ {T:Nat→Option AFn}: ∀{fs:List Qe},Qh T fs→∀{f args bs r},MC fs f args bs=some r→call T f args bs=some r
 | [],_,_,_,_,_,h=>by simp[MC]at h
 | (g,ar,b,v,b2):: fs,hf,f,args,bs,r,h=>by
  simp only[MC]at h
  split at h
  ·rename_i c
   simp only[Bool.and_eq_true,beq_iff_eq]at c
   obtain⟨⟨rfl,e2⟩,e⟩:=c
   have e:=eqVL_eq _ _ e
   have e2:=eqVE_eq _ _ e2
   subst e
   subst e2
   cases h
   exact hf.1
  ·exact HQ hf.2 h
theorem Qf {T:Nat→Option AFn} {fs:List Qe} (hf:Qh T fs): ∀n,KLe (Ql T fs n) (call T)
 | 0,_,_,_,_,h=>by simp[Ql]at h
 | n+1,f,args,bs,r,h=>by
  simp only[Ql]at h
  split at h
  ·rename_i r' hl
   cases h
   exact HQ hf hl
  ·rw[LR]
   have ih:=Qf hf n
   split at h
   ·cases h
   ·rename_i g hg;rw[hg];exact h
   ·rename_i fn hg
    rw[hg]
    simp only
    split at h
    ·rename_i hl
     rw[if_pos hl]
     split at h
     ·rename_i σ hr;rw[Ga ih hr];exact h
     ·rename_i σ hr;rw[Ga ih hr];exact h
     ·cases h
    ·cases h
end Go.Am
namespace Go.Am
def QcP:List AV:=[.str [101,110,99,40,110,58,110,111,110,99,101,44,32,107,58,107,101,121,41]]
def X6:List AV:=[.int .i64 2,.str [107],.int .i64 3,.sl false 4 []]
def V4:List AV:=[.int .i64 2,.str [109],.int .i64 2,.sl false 4 []]
def Yc:List AV:=[.int .i64 2,.str [110],.int .i64 2,.sl false 4 []]
def V5:List (List AV):=[X6,V4,Yc]
def TI:List UInt8:=[101,110,99]
def R2:List AV:=[.int .i64 3,.str TI,.int .i64 0,.sl false 4 [Yc,X6]]
def V6:List AV:=[.sl false 4 V5,.sl false 4 [R2]]
def QcQ:List AV:=[.str [101,110,99,40,109,58,110,111,110,99,101,44,32,107,58,107,101,121,41]]
def Ow:List AV:=[.int .i64 3,.str TI,.int .i64 0,.sl false 4 [V4,X6]]
def WW:List AV:=[.sl false 4 V5,.sl false 4 [Ow]]
def PJ:List AV:=[.agg Yc,.int .i64 0]
def Vw:List AV:=[.agg R2,.int .i64 0]
def PL:List AV:=[.agg V4,.int .i64 0]
def NT:List AV:=[.agg Ow,.int .i64 0]
def We:List AV:=[.sl false 9 [],.int .i64 0]
def IU:List AV:=[.agg [.int .i64 0,.str [],.int .i64 0,.sl false 4 [],.int .i64 0,.str [],.int .i64 0,.sl false 4 [],.bool false],.int .i64 15]
def PM:List AV:=[.bool true,.int .i64 0]
def Cy:List AV:=[.str [107,58,107,101,121]]
def Cz:List AV:=[.str [110,58,110,111,110,99,101]]
def Zs:List AV:=[.sl false 4 V5,.sl false 4 [R2,X6,Yc]]
def Zh:List AV:=[.sl false 4 V5,.sl false 4 [Ow,X6,Yc]]
def Sf:List UInt8:=[100,101,99]
def NU:List UInt8:=[119,48]
def Wr:List AV:=[.int .i64 1,.str NU,.int .i64 0,.sl false 4 []]
def Vx:List AV:=[.int .i64 1,.str [119,49],.int .i64 0,.sl false 4 []]
def NV:List (List AV):=[Wr,Vx]
def Wf:List AV:=[.int .i64 3,.str Sf,.int .i64 0,.sl false 4 NV]
def CA:List (List AV):=[Zs,Zs,[.undef]]
def PN:List AV:=[.int .i64 1,.str [119,50],.int .i64 0,.sl false 4 []]
def Sg:List AV:=[.int .i64 3,.str TI,.int .i64 0,.sl false 4 [PN,Vx]]
def Sh:List AV:=[.int .i64 1,.str NU,.int .i64 0,.sl false 4 [],.int .i64 3,.str TI,.int .i64 0,.sl false 4 [PN,Vx],.bool false]
def CB:List AV:=[.int .i64 3,.str Sf,.int .i64 0,.sl false 4 NV,.int .i64 1,.str [119,50],.int .i64 0,.sl false 4 [],.bool false]
def PO:List AV:=[.int .i64 3,.str Sf,.int .i64 0,.sl false 4 NV,.int .i64 3,.str Sf,.int .i64 0,.sl false 4 NV,.bool false]
def CC:List AV:=[.sl false 9 [Sh,CB,PO],.int .i64 0]
def CD:List (List AV):=[Zh,Zh,[.undef]]
def Si:List AV:=[.int .i64 3,.str TI,.int .i64 0,.sl false 4 [Wf,Vx]]
def NW:List AV:=[.int .i64 1,.str NU,.int .i64 0,.sl false 4 [],.int .i64 3,.str TI,.int .i64 0,.sl false 4 [Wf,Vx],.bool false]
def NX:List AV:=[.sl false 9 [NW,PO],.int .i64 0]
def Sj:List AV:=[.bool false,.int .i64 0]
def IV:List AV:=[.int .i64 3,.str Sf,.int .i64 0,.sl false 4 [Ow,X6]]
def NY:List AV:=[.int .i64 3,.str Sf,.int .i64 0,.sl false 4 [R2,X6]]
def CE:List AV:=[.int .i64 3,.str TI,.int .i64 0,.sl false 4 [NY,X6]]
def PP:List UInt8:=[104,97,115,104]
def Yk:List (List AV):=[Yc]
def PQ:List AV:=[.int .i64 3,.str PP,.int .i64 0,.sl false 4 Yk]
def N0:List AV:=[.sl false 4 V5,.sl false 4 [PQ]]
def Wg:List (List AV):=[Yc,[.str [122]]]
def Uf:List AV:=[.int .i64 2,.str [122],.int .i64 2,.sl false 4 []]
def WX:List AV:=[.sl false 4 V5,.sl false 4 [PQ,Yc]]
def IW:List (List AV):=[X6,V4,Yc,Uf]
def Ws:List AV:=[.sl false 4 IW,.sl false 4 [PQ,Uf]]
def Qx:List (List AV):=[Yc,[],[]]
def CF:List AV:=[.int .i64 3,.str PP,.int .i64 0,.sl false 4 [Vx]]
def CG:List (List AV):=[Yc,[],[],WX]
def CH:List AV:=[.agg PQ,.int .i64 0]
def IX:List AV:=[.int .i64 1,.str NU,.int .i64 0,.sl false 4 [],.int .i64 3,.str PP,.int .i64 0,.sl false 4 [Vx],.bool false]
def CI:List AV:=[.sl false 9 [IX],.int .i64 0]
def CJ:List AV:=[.agg IX,.int .i64 0]
def N1:List AV:=[.int .i64 3,.str PP,.int .i64 0,.sl false 4 [[.int .i64 3,.str [112,97,105,114],.int .i64 0,.sl false 4 [Yc,V4]]]]
def N2:List AV:=[.sl false 4 V5,.sl false 4 [N1]]
def Ug:List AV:=[.sl false 4 V5,.sl false 4 [N1,Yc]]
def Uh:List AV:=[.sl false 4 IW,.sl false 4 [N1,Uf]]
def PR:List AV:=[.int .i64 3,.str TI,.int .i64 0,.sl false 4 [V4,Yc]]
def N3:List AV:=[.sl false 4 V5,.sl false 4 [PR]]
def XT:List AV:=[.sl false 4 V5,.sl false 4 [PR,Yc]]
def XU:List AV:=[.sl false 4 IW,.sl false 4 [PR,Uf]]
def CK:List (List AV):=[Yc,[],[],XT,XT,[.undef]]
def CL:List (List AV):=[Yc,[],[],XT]
def CM:List AV:=[.agg PR,.int .i64 0]
def CN:List AV:=[.agg [.int .i64 0,.str [],.int .i64 0,.sl false 4 []],.int .i64 11]
def CO:List AV:=[.agg NW,.int .i64 0]
def ER:List Qe:=[]
def Ox:Qe:=(399,[.sl false 1 [QcP]],[],.agg V6,[])
def ES:List Qe:=Ox:: ER
def Oy:Qe:=(399,[.sl false 1 [QcQ]],[],.agg WW,[])
def ET:List Qe:=Oy:: ES
def Oz:Qe:=(175,[.agg Yc],[],.tup PJ,[])
def EU:List Qe:=Oz:: ET
def OA:Qe:=(175,[.agg X6],[],.tup [.agg X6,.int .i64 0],[])
def EV:List Qe:=OA:: EU
def OB:Qe:=(175,[.agg R2],[],.tup Vw,[])
def EW:List Qe:=OB:: EV
def OC:Qe:=(175,[.agg V4],[],.tup PL,[])
def EX:List Qe:=OC:: EW
def OD:Qe:=(175,[.agg Ow],[],.tup NT,[])
def EY:List Qe:=OD:: EX
def OE:Qe:=(402,[.agg V6,.agg WW],[],.int .i64 0,[])
def EZ:List Qe:=OE:: EY
def OG:Qe:=(406,[.agg V6,.agg WW],[],.agg V6,[])
def E0:List Qe:=OG:: EZ
def OH:Qe:=(412,[.agg V6],[],.int .i64 0,[])
def Jm:List Qe:=OH:: E0
def Sk:Qe:=(413,[.agg V6],[],.tup We,[])
def Jn:List Qe:=Sk:: Jm
def Sl:Qe:=(411,[.agg V6],[],.tup We,[])
def Jo:List Qe:=Sl:: Jn
def Sm:Qe:=(406,[.agg WW,.agg V6],[],.agg WW,[])
def Jp:List Qe:=Sm:: Jo
def Sn:Qe:=(412,[.agg WW],[],.int .i64 0,[])
def Jq:List Qe:=Sn:: Jp
def So:Qe:=(413,[.agg WW],[],.tup We,[])
def Jr:List Qe:=So:: Jq
def Sp:Qe:=(411,[.agg WW],[],.tup We,[])
def Js:List Qe:=Sp:: Jr
def Sq:Qe:=(401,[.agg V6,.agg WW],[],.tup IU,[])
def Jt:List Qe:=Sq:: Js
def Sr:Qe:=(400,[.agg V6,.agg WW],[],.tup PM,[])
def Ju:List Qe:=Sr:: Jt
def Ss:Qe:=(399,[.sl false 1 [QcP,Cy,Cz]],[],.agg Zs,[])
def Jv:List Qe:=Ss:: Ju
def Su:Qe:=(399,[.sl false 1 [QcQ,Cy,Cz]],[],.agg Zh,[])
def Jw:List Qe:=Su:: Jv
def Sv:Qe:=(402,[.agg Zs,.agg Zh],[],.int .i64 0,[])
def Jx:List Qe:=Sv:: Jw
def Sw:Qe:=(406,[.agg Zs,.agg Zh],[],.agg Zs,[])
def Jy:List Qe:=Sw:: Jx
def Sx:Qe:=(412,[.agg Zs],[],.int .i64 0,[])
def Jz:List Qe:=Sx:: Jy
def Sz:Qe:=(219,[.agg Zs,.agg Wf],CA,.tup PJ,CA)
def JA:List Qe:=Sz:: Jz
def SA:Qe:=(219,[.agg Zs,.agg Sg],[Zs],.tup Vw,[Zs])
def JB:List Qe:=SA:: JA
def SB:Qe:=(413,[.agg Zs],[],.tup CC,[])
def JC:List Qe:=SB:: JB
def SC:Qe:=(411,[.agg Zs],[],.tup CC,[])
def JD:List Qe:=SC:: JC
def SD:Qe:=(406,[.agg Zh,.agg Zs],[],.agg Zh,[])
def JE:List Qe:=SD:: JD
def SE:Qe:=(412,[.agg Zh],[],.int .i64 0,[])
def JF:List Qe:=SE:: JE
def SF:Qe:=(219,[.agg Zh,.agg Wf],CD,.tup PL,CD)
def JG:List Qe:=SF:: JF
def SG:Qe:=(219,[.agg Zh,.agg Si],[Zh],.tup NT,[Zh])
def JH:List Qe:=SG:: JG
def SH:Qe:=(413,[.agg Zh],[],.tup NX,[])
def JI:List Qe:=SH:: JH
def SI:Qe:=(411,[.agg Zh],[],.tup NX,[])
def JJ:List Qe:=SI:: JI
def SJ:Qe:=(220,[.agg Zh,.agg Wr],[],.int .i64 0,[])
def JK:List Qe:=SJ:: JJ
def SL:Qe:=(225,[.agg Zh,.agg Wr],[],.agg Ow,[])
def JL:List Qe:=SL:: JK
def SM:Qe:=(219,[.agg Zh,.agg Wr],[],.tup NT,[])
def JM:List Qe:=SM:: JL
def SN:Qe:=(220,[.agg Zh,.agg Sg],[],.int .i64 0,[])
def JN:List Qe:=SN:: JM
def SO:Qe:=(225,[.agg Zh,.agg PN],[],.agg Yc,[])
def JO:List Qe:=SO:: JN
def SP:Qe:=(225,[.agg Zh,.agg Vx],[],.agg X6,[])
def JP:List Qe:=SP:: JO
def SQ:Qe:=(225,[.agg Zh,.agg Sg],[],.agg R2,[])
def JQ:List Qe:=SQ:: JP
def SR:Qe:=(219,[.agg Zh,.agg Sg],[],.tup Vw,[])
def JR:List Qe:=SR:: JQ
def SS:Qe:=(432,[.agg Zh,.agg Sh],[],.tup Sj,[])
def JS:List Qe:=SS:: JR
def ST:Qe:=(220,[.agg Zh,.agg Wf],[],.int .i64 0,[])
def JT:List Qe:=ST:: JS
def SU:Qe:=(225,[.agg Zh,.agg Wf],[],.agg IV,[])
def JU:List Qe:=SU:: JT
def SV:Qe:=(176,[.agg IV],[],.agg V4,[])
def JV:List Qe:=SV:: JU
def SW:Qe:=(175,[.agg IV],[],.tup PL,[])
def JW:List Qe:=SW:: JV
def SX:Qe:=(219,[.agg Zh,.agg Wf],[],.tup PL,[])
def JX:List Qe:=SX:: JW
def SY:Qe:=(220,[.agg Zh,.agg PN],[],.int .i64 0,[])
def JY:List Qe:=SY:: JX
def SZ:Qe:=(219,[.agg Zh,.agg PN],[],.tup PJ,[])
def JZ:List Qe:=SZ:: JY
def S0:Qe:=(432,[.agg Zh,.agg CB],[],.tup Sj,[])
def J0:List Qe:=S0:: JZ
def S1:Qe:=(432,[.agg Zh,.agg PO],[],.tup PM,[])
def J1:List Qe:=S1:: J0
def S2:Qe:=(220,[.agg Zs,.agg Wr],[],.int .i64 0,[])
def J2:List Qe:=S2:: J1
def S3:Qe:=(225,[.agg Zs,.agg Wr],[],.agg R2,[])
def J3:List Qe:=S3:: J2
def S4:Qe:=(219,[.agg Zs,.agg Wr],[],.tup Vw,[])
def J4:List Qe:=S4:: J3
def S5:Qe:=(220,[.agg Zs,.agg Si],[],.int .i64 0,[])
def J5:List Qe:=S5:: J4
def S6:Qe:=(225,[.agg Zs,.agg Vx],[],.agg X6,[])
def J6:List Qe:=S6:: J5
def S7:Qe:=(225,[.agg Zs,.agg Wf],[],.agg NY,[])
def J7:List Qe:=S7:: J6
def S8:Qe:=(225,[.agg Zs,.agg Si],[],.agg CE,[])
def J8:List Qe:=S8:: J7
def S9:Qe:=(176,[.agg NY],[],.agg Yc,[])
def J9:List Qe:=S9:: J8
def Ra:Qe:=(175,[.agg NY],[],.tup PJ,[])
def Ia:List Qe:=Ra:: J9
def Rb:Qe:=(175,[.agg CE],[],.tup Vw,[])
def Ib:List Qe:=Rb:: Ia
def Rc:Qe:=(219,[.agg Zs,.agg Si],[],.tup Vw,[])
def Ic:List Qe:=Rc:: Ib
def Rd:Qe:=(432,[.agg Zs,.agg NW],[],.tup PM,[])
def Id:List Qe:=Rd:: Ic
def Re:Qe:=(220,[.agg Zs,.agg Wf],[],.int .i64 0,[])
def Ie:List Qe:=Re:: Id
def Rf:Qe:=(219,[.agg Zs,.agg Wf],[],.tup PJ,[])
def Ig:List Qe:=Rf:: Ie
def Rg:Qe:=(432,[.agg Zs,.agg PO],[],.tup PM,[])
def Ih:List Qe:=Rg:: Ig
def Rh:Qe:=(401,[.agg Zs,.agg Zh],[],.tup [.agg Sh,.int .i64 0],[])
def Ii:List Qe:=Rh:: Ih
def Ri:Qe:=(399,[.sl false 1 [[.str [104,97,115,104,40,110,58,110,111,110,99,101,41]]]],[],.agg N0,[])
def Ij:List Qe:=Ri:: Ii
def Rj:Qe:=(412,[.agg N0],Yk,.int .i64 0,Yk)
def Ik:List Qe:=Rj:: Ij
def Rk:Qe:=(434,[.agg X6,.gp 0 0],Yk,.bool false,Yk)
def Il:List Qe:=Rk:: Ik
def Rl:Qe:=(434,[.agg V4,.gp 0 0],Yk,.bool false,Yk)
def Im:List Qe:=Rl:: Il
def Rm:Qe:=(434,[.agg Yc,.gp 0 0],Yk,.bool true,Yk)
def Io:List Qe:=Rm:: Im
def Rn:Qe:=(436,[.agg X6,.gp 1 0],Wg,.bool false,Wg)
def Ip:List Qe:=Rn:: Io
def Ro:Qe:=(436,[.agg V4,.gp 1 0],Wg,.bool false,Wg)
def Iq:List Qe:=Ro:: Ip
def Rp:Qe:=(436,[.agg Yc,.gp 1 0],Wg,.bool false,Wg)
def Ir:List Qe:=Rp:: Iq
def Rq:Qe:=(436,[.agg PQ,.gp 1 0],Wg,.bool false,Wg)
def Is:List Qe:=Rq:: Ir
def Rr:Qe:=(435,[.agg N0,.int .i64 2],Yk,.agg Uf,Yk)
def It:List Qe:=Rr:: Is
def Rs:Qe:=(402,[.agg WX,.agg Ws],Qx,.int .i64 0,Qx)
def Iu:List Qe:=Rs:: It
def Rt:Qe:=(406,[.agg WX,.agg Ws],Qx,.agg WX,Qx)
def Iv:List Qe:=Rt:: Iu
def Ru:Qe:=(412,[.agg WX],Qx,.int .i64 0,Qx)
def Iw:List Qe:=Ru:: Iv
def Rv:Qe:=(219,[.agg WX,.agg CF],CG,.tup CH,CG)
def Ix:List Qe:=Rv:: Iw
def Rw:Qe:=(413,[.agg WX],Qx,.tup CI,Qx)
def Iy:List Qe:=Rw:: Ix
def Rx:Qe:=(411,[.agg WX],Qx,.tup CI,Qx)
def Iz:List Qe:=Rx:: Iy
def Ry:Qe:=(406,[.agg Ws,.agg WX],Qx,.agg Ws,Qx)
def IA:List Qe:=Ry:: Iz
def Rz:Qe:=(412,[.agg Ws],Qx,.int .i64 0,Qx)
def IB:List Qe:=Rz:: IA
def RA:Qe:=(413,[.agg Ws],Qx,.tup We,Qx)
def IC:List Qe:=RA:: IB
def RB:Qe:=(411,[.agg Ws],Qx,.tup We,Qx)
def ID:List Qe:=RB:: IC
def RC:Qe:=(219,[.agg Ws,.agg Wr],Qx,.tup CH,Qx)
def IE:List Qe:=RC:: ID
def RD:Qe:=(219,[.agg Ws,.agg CF],Qx,.tup [.agg [.int .i64 3,.str PP,.int .i64 0,.sl false 4 [Uf]],.int .i64 0],Qx)
def IF:List Qe:=RD:: IE
def RE:Qe:=(432,[.agg Ws,.agg IX],Qx,.tup Sj,Qx)
def IG:List Qe:=RE:: IF
def RF:Qe:=(401,[.agg WX,.agg Ws],Qx,.tup CJ,Qx)
def II:List Qe:=RF:: IG
def RG:Qe:=(433,[.agg N0,.agg Yc],[],.tup CJ,[])
def IJ:List Qe:=RG:: II
def RH:Qe:=(399,[.sl false 1 [[.str [104,97,115,104,40,112,97,105,114,40,110,58,110,111,110,99,101,44,32,109,58,110,111,110,99,101,41,41]]]],[],.agg N2,[])
def IK:List Qe:=RH:: IJ
def RI:Qe:=(412,[.agg N2],Yk,.int .i64 0,Yk)
def IL:List Qe:=RI:: IK
def RJ:Qe:=(436,[.agg N1,.gp 1 0],Wg,.bool false,Wg)
def IM:List Qe:=RJ:: IL
def RK:Qe:=(435,[.agg N2,.int .i64 2],Yk,.agg Uf,Yk)
def IO:List Qe:=RK:: IM
def RL:Qe:=(402,[.agg Ug,.agg Uh],Qx,.int .i64 0,Qx)
def IP:List Qe:=RL:: IO
def RM:Qe:=(406,[.agg Ug,.agg Uh],Qx,.agg Ug,Qx)
def IQ:List Qe:=RM:: IP
def RN:Qe:=(412,[.agg Ug],Qx,.int .i64 0,Qx)
def IR:List Qe:=RN:: IQ
def RO:Qe:=(413,[.agg Ug],Qx,.tup We,Qx)
def MW:List Qe:=RO:: IR
def UC:Qe:=(411,[.agg Ug],Qx,.tup We,Qx)
def MY:List Qe:=UC:: MW
def UD:Qe:=(406,[.agg Uh,.agg Ug],Qx,.agg Uh,Qx)
def MZ:List Qe:=UD:: MY
def UE:Qe:=(412,[.agg Uh],Qx,.int .i64 0,Qx)
def M0:List Qe:=UE:: MZ
def UF:Qe:=(413,[.agg Uh],Qx,.tup We,Qx)
def M1:List Qe:=UF:: M0
def UG:Qe:=(411,[.agg Uh],Qx,.tup We,Qx)
def M3:List Qe:=UG:: M1
def UH:Qe:=(401,[.agg Ug,.agg Uh],Qx,.tup IU,Qx)
def M4:List Qe:=UH:: M3
def UI:Qe:=(433,[.agg N2,.agg Yc],[],.tup IU,[])
def M5:List Qe:=UI:: M4
def UJ:Qe:=(399,[.sl false 1 [[.str [101,110,99,40,109,58,110,111,110,99,101,44,32,110,58,110,111,110,99,101,41]]]],[],.agg N3,[])
def M6:List Qe:=UJ:: M5
def UK:Qe:=(412,[.agg N3],Yk,.int .i64 0,Yk)
def M7:List Qe:=UK:: M6
def UL:Qe:=(436,[.agg PR,.gp 1 0],Wg,.bool false,Wg)
def M8:List Qe:=UL:: M7
def UM:Qe:=(435,[.agg N3,.int .i64 2],Yk,.agg Uf,Yk)
def M9:List Qe:=UM:: M8
def UN:Qe:=(402,[.agg XT,.agg XU],Qx,.int .i64 0,Qx)
def La:List Qe:=UN:: M9
def UO:Qe:=(406,[.agg XT,.agg XU],Qx,.agg XT,Qx)
def Lb:List Qe:=UO:: La
def UP:Qe:=(412,[.agg XT],Qx,.int .i64 0,Qx)
def Lc:List Qe:=UP:: Lb
def UQ:Qe:=(219,[.agg XT,.agg Wf],CK,.tup PL,CK)
def Ld:List Qe:=UQ:: Lc
def UR:Qe:=(219,[.agg XT,.agg Si],CL,.tup CM,CL)
def Lf:List Qe:=UR:: Ld
def US:Qe:=(413,[.agg XT],Qx,.tup NX,Qx)
def Lg:List Qe:=US:: Lf
def UT:Qe:=(411,[.agg XT],Qx,.tup NX,Qx)
def Lh:List Qe:=UT:: Lg
def UU:Qe:=(406,[.agg XU,.agg XT],Qx,.agg XU,Qx)
def Li:List Qe:=UU:: Lh
def UV:Qe:=(412,[.agg XU],Qx,.int .i64 0,Qx)
def Lj:List Qe:=UV:: Li
def UW:Qe:=(413,[.agg XU],Qx,.tup We,Qx)
def Lk:List Qe:=UW:: Lj
def UX:Qe:=(411,[.agg XU],Qx,.tup We,Qx)
def Ll:List Qe:=UX:: Lk
def UY:Qe:=(219,[.agg XU,.agg Wr],Qx,.tup CM,Qx)
def Lm:List Qe:=UY:: Ll
def UZ:Qe:=(219,[.agg XU,.agg Si],Qx,.tup CN,Qx)
def Ln:List Qe:=UZ:: Lm
def U0:Qe:=(432,[.agg XU,.agg NW],Qx,.tup Sj,Qx)
def Lo:List Qe:=U0:: Ln
def U1:Qe:=(219,[.agg XU,.agg Wf],Qx,.tup CN,Qx)
def Lp:List Qe:=U1:: Lo
def U2:Qe:=(432,[.agg XU,.agg PO],Qx,.tup Sj,Qx)
def Lq:List Qe:=U2:: Lp
def U3:Qe:=(401,[.agg XT,.agg XU],Qx,.tup CO,Qx)
def Lr:List Qe:=U3:: Lq
def U4:Qe:=(433,[.agg N3,.agg Yc],[],.tup CO,[])
def Ls:List Qe:=U4:: Lr
def U5:Qe:=(267,[.agg Zs,.agg Wr],[],.tup Vw,[])
def Lt:List Qe:=U5:: Ls
def U6:Qe:=(267,[.agg Zs,.agg Sg],[],.tup Vw,[])
def Lu:List Qe:=U6:: Lt
def U7:Qe:=(443,[.agg Zs,.agg Sh],[],.tup PM,[])
def Lv:List Qe:=U7:: Lu
def U8:Qe:=(267,[.agg Zh,.agg Wr],[],.tup NT,[])
def Lw:List Qe:=U8:: Lv
def U9:Qe:=(267,[.agg Zh,.agg Sg],[],.tup Vw,[])
def Lx:List Qe:=U9:: Lw
def Ta:Qe:=(443,[.agg Zh,.agg Sh],[],.tup Sj,[])
def Ly:List Qe:=Ta:: Lx
def Tb:Qe:=(438,[.agg Zs,.agg Zh,.agg Sh],[],.bool true,[])
def Fb:List Qe:=Tb:: Ly
end Go.Am
