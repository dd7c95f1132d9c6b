/-
  AmMemo, EnMD.
-/
import Derived.Test.YtkikjgionglgaaaGreatDoorG14
import Derived.KernelRfl
set_option linter.unusedVariables false
set_option linter.unusedSimpArgs false
namespace Go.Am
theorem Iw {T:Nat→Option AFn} {K:Zx} (h:KLe K (call T)) {n:Nat}: ∀{c:AC} {σ:St} {x:Ex×St},Q0 K n c σ=some x→run T c σ=some x:=by
 intro c
 induction c with
 | bad=>intro σ x he;simp[Q0]at he
 | skip=>intro σ x he;rw[IA];exact he
 | ret=>intro σ x he;rw[Gy];exact he
 | exit id=>intro σ x he;rw[Iy];exact he
 | reg d ops=>
  intro σ x he;rw[Gx];simp only[Q0]at he;cases hr:Zf K ops σ with
  | none=>rw[hr]at he;cases he
  | some s=>rw[W4 h hr];rw[hr]at he;exact he
 | seq a b iha ihb=>
  intro σ x he;rw[Gz];simp only[Q0]at he;cases ha:Q0 K n a σ with
  | none=>rw[ha]at he;cases he
  | some p=>
   obtain⟨e,s⟩:=p;rw[ha]at he;rw[iha ha];cases e
   ·exact ihb he
   ·exact he
   ·exact he
 | cond c a b iha ihb=>
  intro σ x he;rw[Ix];simp only[Q0]at he;split at he
  ·rename_i hv;rw[hv];exact iha he
  ·rename_i hv;rw[hv];exact ihb he
  ·cases he
 | block id c ih=>
  intro σ x he;rw[M7];simp only[Q0]at he;cases ha:Q0 K n c σ with
  | none=>rw[ha]at he;cases he
  | some p=>rw[ha]at he;rw[ih ha];exact he
 | loop c ih=>
  intro σ x he;simp only[Q0]at he;have key: ∀(m:Nat) (σ:St) (x:Ex×St),WZ (Q0 K n c) m σ=some x→run T (.loop c) σ=some x:=by
   intro m
   induction m with
   | zero=>intro σ x he;simp[WZ]at he
   | succ m IH=>
    intro σ x he;rw[Iz];simp only[WZ]at he;cases ha:Q0 K n c σ with
    | none=>rw[ha]at he;cases he
    | some p=>
     obtain⟨e,s⟩:=p;rw[ha]at he;rw[ih ha];cases e
     ·exact IH _ _ he
     ·exact he
     ·exact he
  exact key n σ x he
abbrev Qg:=Nat×List AV×List (List AV)×AV×List (List AV)
def NJ:List Qg→Nat→List AV→List (List AV)→Option (AV×List (List AV))
 | [],_,_,_=>none
 | (g,ar,b,v,b2):: fs,f,args,bs=>if(g == f && eqVE b bs && eqVL ar args)=true then some (v,b2)else NJ fs f args bs
def Qq (T:Nat→Option AFn) (fs:List Qg):Nat→Zx
 | 0,_,_,_=>none
 | n+1,f,args,bs=>match NJ fs f args bs with
  | some r=>some r
  | none=>match T f with
   | none=>none
   | some (.orc g)=>g args bs
   | some (.code fn)=>
    if args.length=fn.nparams then
     match Q0 (Qq T fs n) n fn.body {env:=Yr args,bs}with
     | some (.normal,σ)=>Yd fn bs σ
     | some (.ret,σ)=>Yd fn bs σ
     | _=>none
    else none
def Qk (T:Nat→Option AFn):List Qg→Prop
 | []=>True
 | (g,ar,b,v,b2):: fs=>call T g ar b=some (v,b2)∧Qk T fs
theorem Ia {T:Nat→Option AFn}: ∀{fs:List Qg},Qk T fs→∀{f args bs r},NJ fs f args bs=some r→call T f args bs=some r
 | [],_,_,_,_,_,h=>by simp[NJ]at h
 | (g,ar,b,v,b2):: fs,hf,f,args,bs,r,h=>by
  simp only[NJ]at h;split at h
  ·rename_i c;simp only[Bool.and_eq_true,beq_iff_eq]at c;obtain⟨⟨rfl,e2⟩,e⟩:=c;have e:=eqVL_eq _ _ e;have e2:=eqVE_eq _ _ e2;subst e;subst e2;cases h;exact hf.1
  ·exact Ia hf.2 h
theorem Qh {T:Nat→Option AFn} {fs:List Qg} (hf:Qk T fs): ∀n,KLe (Qq T fs n) (call T)
 | 0,_,_,_,_,h=>by simp[Qq]at h
 | n+1,f,args,bs,r,h=>by
  simp only[Qq]at h;split at h
  ·rename_i r' hl;cases h;exact Ia hf hl
  ·rw[Mp];have ih:=Qh hf n;split at h
   ·cases h
   ·rename_i g hg;rw[hg];exact h
   ·rename_i fn hg;rw[hg];simp only;split at h
    ·rename_i hl;rw[if_pos hl];split at h
     ·rename_i σ hr;rw[Iw ih hr];exact h
     ·rename_i σ hr;rw[Iw ih hr];exact h
     ·cases h
    ·cases h
def Lz:List (List AV):=[[.str [97]],[.str [98]]]
def LA:List UInt8:=[115,107]
def Yz:List AV:=[.int .i64 2,.str [97],.int .i64 1,.sl false 4 []]
def ZQ:List AV:=[.int .i64 3,.str LA,.int .i64 0,.sl false 4 [Yz]]
def YS:List AV:=[.int .i64 3,.str [112,107],.int .i64 0,.sl false 4 [ZQ]]
def Xf:List AV:=[.int .i64 2,.str [98],.int .i64 1,.sl false 4 []]
def ZR:List AV:=[.int .i64 3,.str LA,.int .i64 0,.sl false 4 [Xf]]
def YT:List AV:=[.int .i64 3,.str [112,107],.int .i64 0,.sl false 4 [ZR]]
def GW:List AV:=[.sl false 1 Lz,.sl false 1 [],.sl false 4 [YS,YT]]
def Xg:List AV:=[.int .i64 2,.str [110],.int .i64 2,.sl false 4 []]
def Yj:List AV:=[.int .i64 2,.str [107],.int .i64 3,.sl false 4 []]
def Yq:List AV:=[.int .i64 3,.str [101,110,99],.int .i64 0,.sl false 4 [Xg,Yj]]
def UR:List (List AV):=[YS,YT,Yq,Yj]
def Vw:List AV:=[.sl false 1 Lz,.sl false 1 [],.sl false 4 UR]
def Pa:List (List AV):=[Yz,Xf,Yj,Xg,ZQ,ZR,Yq,YS,YT]
def Ue:List AV:=[.int .i64 2,.str [101,35,48],.int .i64 2,.sl false 4 []]
def Jd:List (List AV):=[Ue,Xg]
def Je:List UInt8:=[112,97,105,114]
def Nd:List AV:=[.int .i64 3,.str Je,.int .i64 0,.sl false 4 [[.int .i64 1,.str [120],.int .i64 2,.sl false 4 []],Yz]]
def US:List AV:=[.int .i64 3,.str Je,.int .i64 0,.sl false 4 [Ue,Yz]]
def Qj:List (List AV):=[Nd,[],[]]
def Jf:List (List AV):=[Yz,Xf,Ue,Yj,Xg,ZQ,ZR,Yq,US,YS,YT]
def Vx:List (List AV):=[Yj,Yq,YS,YT]
def TI:List (List AV):=[Yz,Yj,Yq,YS,YT]
def Uf:List (List AV):=[Yz,Xf,Yj,Yq,YS,YT]
def Jg:List (List AV):=[Yz,Xf,Ue,Yj,Yq,YS,YT]
def X0:List (List AV):=[Yz,Xf,Ue,Yj,Xg,Yq,YS,YT]
def Nf:List AV:=[.sl false 1 [],.int .i64 4]
def Pb:List (List AV):=[[.int .i64 3,.str LA,.int .i64 0,.sl false 4 [Yz],.int .i64 1]]
def Pc:List (List AV):=[[.int .i64 3,.str LA,.int .i64 0,.sl false 4 [Xf],.int .i64 1]]
def Wo:List (List AV):=[Yz,Xf,Ue,Yj,Xg,Yq,US,YS,YT]
def UT:List AV:=[.int .i64 3,.str Je,.int .i64 0,.sl false 4 [Xg,Yz]]
def Jh:List (List AV):=[Yz,Xf,Yj,Xg,ZQ,ZR,Yq,UT,YS,YT]
def X1:List (List AV):=[Yz,Xf,Yj,Xg,Yq,YS,YT]
def Wp:List (List AV):=[Yz,Xf,Yj,Xg,Yq,UT,YS,YT]
def Vy:List AV:=[.int .i64 2,.str [101,35,48],.int .i64 4,.sl false 4 []]
def Ng:List AV:=[.int .i64 3,.str [104,97,115,104],.int .i64 0,.sl false 4 [[.int .i64 1,.str [120],.int .i64 4,.sl false 4 []]]]
def UU:List AV:=[.int .i64 3,.str [104,97,115,104],.int .i64 0,.sl false 4 [Vy]]
def QK:List (List AV):=[Ng,[]]
def Ji:List (List AV):=[Yz,Xf,Vy,Yj,Xg,UU,ZQ,ZR,Yq,YS,YT]
def Jj:List (List AV):=[Yz,Xf,Vy,Yj,Yq,YS,YT]
def Jk:List (List AV):=[Yz,Xf,Vy,Yj,Xg,Yq,YS,YT]
def Wq:List (List AV):=[Yz,Xf,Vy,Yj,Xg,UU,Yq,YS,YT]
def GM:List Qg:=[]
def P0:Qg:=(479,[.agg [.sl false 1 Lz,.sl false 1 []]],[],.tup [.sl false 4 [YS,YT],.int .i64 0],[])
def GN:List Qg:=P0:: GM
def P1:Qg:=(478,[.agg [.sl false 1 Lz,.sl true 1 []]],[],.tup [.agg GW,.int .i64 0],[])
def GO:List Qg:=P1:: GN
def P2:Qg:=(502,[.agg GW],[],.int .i64 0,[])
def GP:List Qg:=P2:: GO
def P3:Qg:=(501,[.agg GW,.sl false 4 [Yq,Yj]],[],.tup [.agg Vw,.int .i64 0],[])
def GQ:List Qg:=P3:: GP
def P4:Qg:=(502,[.agg Vw],[],.int .i64 0,[])
def GR:List Qg:=P4:: GQ
def P5:Qg:=(511,[.sl false 4 UR],[],.sl true 4 Pa,[])
def GS:List Qg:=P5:: GR
def P6:Qg:=(513,[.agg Vw,.sl false 4 Pa,.int .i64 2],[],.sl true 4 Jd,[])
def GT:List Qg:=P6:: GS
def P7:Qg:=(510,[.agg Vw,.int .i64 2],[],.tup [.sl false 4 Jd,.int .i64 0],[])
def GU:List Qg:=P7:: GT
def P8:Qg:=(513,[.agg Vw,.sl false 4 Pa,.int .i64 2],[Nd],.sl true 4 Jd,[Nd])
def GV:List Qg:=P8:: GU
def P9:Qg:=(519,[.sl false 4 [YS,YT,Yq,Yj,US]],Qj,.int .i64 0,Qj)
def LH:List Qg:=P9:: GV
def TJ:Qg:=(521,[.sl false 4 Jf],Qj,.int .i64 0,Qj)
def LI:List Qg:=TJ:: LH
def TK:Qg:=(518,[.sl false 4 UR,.sl false 4 [US]],Qj,.tup [.sl false 4 Jf,.int .i64 0],Qj)
def LJ:List Qg:=TK:: LI
def TL:Qg:=(527,[.sl false 4 UR],Qj,.sl true 4 Vx,Qj)
def LK:List Qg:=TL:: LJ
def TM:Qg:=(531,[.sl false 4 Vx,.agg Yz],Qj,.bool true,Qj)
def LL:List Qg:=TM:: LK
def TN:Qg:=(523,[.sl false 4 Vx,.agg Yz],Qj,.sl true 4 TI,Qj)
def LM:List Qg:=TN:: LL
def TO:Qg:=(531,[.sl false 4 TI,.agg Xf],Qj,.bool true,Qj)
def LN:List Qg:=TO:: LM
def TP:Qg:=(523,[.sl false 4 TI,.agg Xf],Qj,.sl true 4 Uf,Qj)
def LO:List Qg:=TP:: LN
def TQ:Qg:=(531,[.sl false 4 Uf,.agg Ue],Qj,.bool true,Qj)
def LP:List Qg:=TQ:: LO
def TR:Qg:=(523,[.sl false 4 Uf,.agg Ue],Qj,.sl true 4 Jg,Qj)
def LQ:List Qg:=TR:: LP
def TT:Qg:=(531,[.sl false 4 Jg,.agg Xg],Qj,.bool true,Qj)
def LR:List Qg:=TT:: LQ
def TU:Qg:=(523,[.sl false 4 Jg,.agg Xg],Qj,.sl true 4 X0,Qj)
def LS:List Qg:=TU:: LR
def TV:Qg:=(527,[.sl false 4 [ZQ]],Qj,.sl true 4 [ZQ],Qj)
def LT:List Qg:=TV:: LS
def TW:Qg:=(541,[.sl false 4 [],.agg ZQ],Qj,.tup Nf,Qj)
def LU:List Qg:=TW:: LT
def TX:Qg:=(539,[.sl false 4 X0,.agg ZQ],Qj,.bool false,Qj)
def LV:List Qg:=TX:: LU
def TY:Qg:=(552,[.sl false 4 X0,.agg ZQ],Qj,.bool false,Qj)
def LW:List Qg:=TY:: LV
def TZ:Qg:=(555,[.sl false 4 X0,.sl false 5 Pb],Qj,.bool false,Qj)
def LX:List Qg:=TZ:: LW
def T0:Qg:=(568,[.sl false 4 X0,.agg ZQ],Qj,.bool false,Qj)
def LY:List Qg:=T0:: LX
def T1:Qg:=(531,[.sl false 4 X0,.agg ZQ],Qj,.bool false,Qj)
def LZ:List Qg:=T1:: LY
def T2:Qg:=(527,[.sl false 4 [ZR]],Qj,.sl true 4 [ZR],Qj)
def L0:List Qg:=T2:: LZ
def T3:Qg:=(541,[.sl false 4 [],.agg ZR],Qj,.tup Nf,Qj)
def L1:List Qg:=T3:: L0
def T4:Qg:=(539,[.sl false 4 X0,.agg ZR],Qj,.bool false,Qj)
def L2:List Qg:=T4:: L1
def T5:Qg:=(552,[.sl false 4 X0,.agg ZR],Qj,.bool false,Qj)
def L3:List Qg:=T5:: L2
def T6:Qg:=(555,[.sl false 4 X0,.sl false 5 Pc],Qj,.bool false,Qj)
def L4:List Qg:=T6:: L3
def T7:Qg:=(568,[.sl false 4 X0,.agg ZR],Qj,.bool false,Qj)
def L5:List Qg:=T7:: L4
def T8:Qg:=(531,[.sl false 4 X0,.agg ZR],Qj,.bool false,Qj)
def L6:List Qg:=T8:: L5
def T9:Qg:=(531,[.sl false 4 X0,.agg US],Qj,.bool true,Qj)
def L7:List Qg:=T9:: L6
def Sa:Qg:=(523,[.sl false 4 X0,.agg US],Qj,.sl true 4 Wo,Qj)
def L8:List Qg:=Sa:: L7
def Sb:Qg:=(539,[.sl false 4 Wo,.agg ZQ],Qj,.bool false,Qj)
def L9:List Qg:=Sb:: L8
def Sc:Qg:=(552,[.sl false 4 Wo,.agg ZQ],Qj,.bool false,Qj)
def Ka:List Qg:=Sc:: L9
def Sd:Qg:=(555,[.sl false 4 Wo,.sl false 5 Pb],Qj,.bool false,Qj)
def Kb:List Qg:=Sd:: Ka
def Se:Qg:=(568,[.sl false 4 Wo,.agg ZQ],Qj,.bool false,Qj)
def Kc:List Qg:=Se:: Kb
def Sf:Qg:=(531,[.sl false 4 Wo,.agg ZQ],Qj,.bool false,Qj)
def Kd:List Qg:=Sf:: Kc
def Sg:Qg:=(539,[.sl false 4 Wo,.agg ZR],Qj,.bool false,Qj)
def Ke:List Qg:=Sg:: Kd
def Sh:Qg:=(552,[.sl false 4 Wo,.agg ZR],Qj,.bool false,Qj)
def Kf:List Qg:=Sh:: Ke
def Si:Qg:=(555,[.sl false 4 Wo,.sl false 5 Pc],Qj,.bool false,Qj)
def Kg:List Qg:=Si:: Kf
def Sj:Qg:=(568,[.sl false 4 Wo,.agg ZR],Qj,.bool false,Qj)
def Kh:List Qg:=Sj:: Kg
def Sk:Qg:=(531,[.sl false 4 Wo,.agg ZR],Qj,.bool false,Qj)
def Ki:List Qg:=Sk:: Kh
def Sl:Qg:=(529,[.sl false 4 Vx,.sl false 4 Jf],Qj,.sl false 4 Wo,Qj)
def Kj:List Qg:=Sl:: Ki
def Sm:Qg:=(519,[.sl false 4 [YS,YT,Yq,Yj,UT]],Qj,.int .i64 0,Qj)
def Kk:List Qg:=Sm:: Kj
def Sn:Qg:=(521,[.sl false 4 Jh],Qj,.int .i64 0,Qj)
def Kl:List Qg:=Sn:: Kk
def So:Qg:=(518,[.sl false 4 UR,.sl false 4 [UT]],Qj,.tup [.sl false 4 Jh,.int .i64 0],Qj)
def Km:List Qg:=So:: Kl
def Sp:Qg:=(531,[.sl false 4 Uf,.agg Xg],Qj,.bool true,Qj)
def Ko:List Qg:=Sp:: Km
def Sq:Qg:=(523,[.sl false 4 Uf,.agg Xg],Qj,.sl true 4 X1,Qj)
def Kp:List Qg:=Sq:: Ko
def Sr:Qg:=(539,[.sl false 4 X1,.agg ZQ],Qj,.bool false,Qj)
def Kq:List Qg:=Sr:: Kp
def Ss:Qg:=(552,[.sl false 4 X1,.agg ZQ],Qj,.bool false,Qj)
def Kr:List Qg:=Ss:: Kq
def Su:Qg:=(555,[.sl false 4 X1,.sl false 5 Pb],Qj,.bool false,Qj)
def Ks:List Qg:=Su:: Kr
def Sv:Qg:=(568,[.sl false 4 X1,.agg ZQ],Qj,.bool false,Qj)
def Kt:List Qg:=Sv:: Ks
def Sw:Qg:=(531,[.sl false 4 X1,.agg ZQ],Qj,.bool false,Qj)
def Ku:List Qg:=Sw:: Kt
def Sx:Qg:=(539,[.sl false 4 X1,.agg ZR],Qj,.bool false,Qj)
def Kv:List Qg:=Sx:: Ku
def Sz:Qg:=(552,[.sl false 4 X1,.agg ZR],Qj,.bool false,Qj)
def Kw:List Qg:=Sz:: Kv
def SA:Qg:=(555,[.sl false 4 X1,.sl false 5 Pc],Qj,.bool false,Qj)
def Kx:List Qg:=SA:: Kw
def SB:Qg:=(568,[.sl false 4 X1,.agg ZR],Qj,.bool false,Qj)
def Ky:List Qg:=SB:: Kx
def SC:Qg:=(531,[.sl false 4 X1,.agg ZR],Qj,.bool false,Qj)
def Kz:List Qg:=SC:: Ky
def SD:Qg:=(531,[.sl false 4 X1,.agg UT],Qj,.bool true,Qj)
def KA:List Qg:=SD:: Kz
def SE:Qg:=(523,[.sl false 4 X1,.agg UT],Qj,.sl true 4 Wp,Qj)
def KB:List Qg:=SE:: KA
def SF:Qg:=(539,[.sl false 4 Wp,.agg ZQ],Qj,.bool false,Qj)
def KC:List Qg:=SF:: KB
def SG:Qg:=(552,[.sl false 4 Wp,.agg ZQ],Qj,.bool false,Qj)
def KD:List Qg:=SG:: KC
def SH:Qg:=(555,[.sl false 4 Wp,.sl false 5 Pb],Qj,.bool false,Qj)
def KE:List Qg:=SH:: KD
def SI:Qg:=(568,[.sl false 4 Wp,.agg ZQ],Qj,.bool false,Qj)
def KF:List Qg:=SI:: KE
def SJ:Qg:=(531,[.sl false 4 Wp,.agg ZQ],Qj,.bool false,Qj)
def KH:List Qg:=SJ:: KF
def SK:Qg:=(539,[.sl false 4 Wp,.agg ZR],Qj,.bool false,Qj)
def KI:List Qg:=SK:: KH
def SL:Qg:=(552,[.sl false 4 Wp,.agg ZR],Qj,.bool false,Qj)
def KJ:List Qg:=SL:: KI
def SM:Qg:=(555,[.sl false 4 Wp,.sl false 5 Pc],Qj,.bool false,Qj)
def KL:List Qg:=SM:: KJ
def SN:Qg:=(568,[.sl false 4 Wp,.agg ZR],Qj,.bool false,Qj)
def KN:List Qg:=SN:: KL
def SO:Qg:=(531,[.sl false 4 Wp,.agg ZR],Qj,.bool false,Qj)
def KO:List Qg:=SO:: KN
def SP:Qg:=(529,[.sl false 4 Vx,.sl false 4 Jh],Qj,.sl false 4 Wp,Qj)
def KP:List Qg:=SP:: KO
def SQ:Qg:=(515,[.agg Vw,.agg Nd],[],.tup [.sl false 4 [US,UT],.int .i64 0],[])
def KQ:List Qg:=SQ:: KP
def SR:Qg:=(513,[.agg Vw,.sl false 4 Pa,.int .i64 4],[],.sl true 4 [Vy],[])
def KR:List Qg:=SR:: KQ
def SS:Qg:=(513,[.agg Vw,.sl false 4 Pa,.int .i64 4],[Ng],.sl true 4 [Vy],[Ng])
def KS:List Qg:=SS:: KR
def ST:Qg:=(519,[.sl false 4 [YS,YT,Yq,Yj,UU]],QK,.int .i64 0,QK)
def KT:List Qg:=ST:: KS
def SU:Qg:=(521,[.sl false 4 Ji],QK,.int .i64 0,QK)
def KU:List Qg:=SU:: KT
def SV:Qg:=(518,[.sl false 4 UR,.sl false 4 [UU]],QK,.tup [.sl false 4 Ji,.int .i64 0],QK)
def KV:List Qg:=SV:: KU
def SW:Qg:=(527,[.sl false 4 UR],QK,.sl true 4 Vx,QK)
def KW:List Qg:=SW:: KV
def SX:Qg:=(531,[.sl false 4 Vx,.agg Yz],QK,.bool true,QK)
def KX:List Qg:=SX:: KW
def SY:Qg:=(523,[.sl false 4 Vx,.agg Yz],QK,.sl true 4 TI,QK)
def KY:List Qg:=SY:: KX
def SZ:Qg:=(531,[.sl false 4 TI,.agg Xf],QK,.bool true,QK)
def KZ:List Qg:=SZ:: KY
def S0:Qg:=(523,[.sl false 4 TI,.agg Xf],QK,.sl true 4 Uf,QK)
def K0:List Qg:=S0:: KZ
def S1:Qg:=(531,[.sl false 4 Uf,.agg Vy],QK,.bool true,QK)
def K1:List Qg:=S1:: K0
def S2:Qg:=(523,[.sl false 4 Uf,.agg Vy],QK,.sl true 4 Jj,QK)
def K2:List Qg:=S2:: K1
def S3:Qg:=(531,[.sl false 4 Jj,.agg Xg],QK,.bool true,QK)
def K3:List Qg:=S3:: K2
def S4:Qg:=(523,[.sl false 4 Jj,.agg Xg],QK,.sl true 4 Jk,QK)
def K4:List Qg:=S4:: K3
def S5:Qg:=(531,[.sl false 4 Jk,.agg UU],QK,.bool true,QK)
def K5:List Qg:=S5:: K4
def S6:Qg:=(523,[.sl false 4 Jk,.agg UU],QK,.sl true 4 Wq,QK)
def K6:List Qg:=S6:: K5
def S7:Qg:=(527,[.sl false 4 [ZQ]],QK,.sl true 4 [ZQ],QK)
def K7:List Qg:=S7:: K6
def S8:Qg:=(541,[.sl false 4 [],.agg ZQ],QK,.tup Nf,QK)
def K8:List Qg:=S8:: K7
def S9:Qg:=(539,[.sl false 4 Wq,.agg ZQ],QK,.bool false,QK)
def K9:List Qg:=S9:: K8
def Ra:Qg:=(552,[.sl false 4 Wq,.agg ZQ],QK,.bool false,QK)
def Ja:List Qg:=Ra:: K9
def Rb:Qg:=(555,[.sl false 4 Wq,.sl false 5 Pb],QK,.bool false,QK)
def Jb:List Qg:=Rb:: Ja
def Rc:Qg:=(568,[.sl false 4 Wq,.agg ZQ],QK,.bool false,QK)
def Jc:List Qg:=Rc:: Jb
def Rd:Qg:=(531,[.sl false 4 Wq,.agg ZQ],QK,.bool false,QK)
def N0:List Qg:=Rd:: Jc
def UA:Qg:=(527,[.sl false 4 [ZR]],QK,.sl true 4 [ZR],QK)
def N1:List Qg:=UA:: N0
def UB:Qg:=(541,[.sl false 4 [],.agg ZR],QK,.tup Nf,QK)
def N2:List Qg:=UB:: N1
def UC:Qg:=(539,[.sl false 4 Wq,.agg ZR],QK,.bool false,QK)
def N3:List Qg:=UC:: N2
def UD:Qg:=(552,[.sl false 4 Wq,.agg ZR],QK,.bool false,QK)
def N4:List Qg:=UD:: N3
def UE:Qg:=(555,[.sl false 4 Wq,.sl false 5 Pc],QK,.bool false,QK)
def N5:List Qg:=UE:: N4
def UF:Qg:=(568,[.sl false 4 Wq,.agg ZR],QK,.bool false,QK)
def N6:List Qg:=UF:: N5
def UG:Qg:=(531,[.sl false 4 Wq,.agg ZR],QK,.bool false,QK)
def N7:List Qg:=UG:: N6
def UH:Qg:=(529,[.sl false 4 Vx,.sl false 4 Ji],QK,.sl false 4 Wq,QK)
def N8:List Qg:=UH:: N7
def UI:Qg:=(515,[.agg Vw,.agg Ng],[],.tup [.sl false 4 [UU],.int .i64 0],[])
def HA:List Qg:=UI:: N8
end Go.Am
