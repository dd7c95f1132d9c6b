/-
  AmMemo, EnMD.
-/
import Derived.Test.YtpdmcibimbjknaaGreatDoorG14
import Derived.KernelRfl
set_option linter.unusedVariables false
set_option linter.unusedSimpArgs false
namespace Go.Am
theorem Hx {T:Nat→Option AFn} {K:ZJ} (h:KLe K (call T)) {n:Nat}: ∀{c:AC} {σ:St} {x:Ex×St},Q2 K n c σ=some x→run T c σ=some x:=by
 intro c
 induction c with
 | bad=>intro σ x he;simp[Q2]at he
 | skip=>intro σ x he;rw[HB];exact he
 | ret=>intro σ x he;rw[Fx];exact he
 | exit id=>intro σ x he;rw[Hz];exact he
 | reg d ops=>
  intro σ x he;rw[Fw];simp only[Q2]at he;cases hr:Zn K ops σ with
  | none=>rw[hr]at he;cases he
  | some s=>rw[Vp h hr];rw[hr]at he;exact he
 | seq a b iha ihb=>
  intro σ x he;rw[Fy];simp only[Q2]at he;cases ha:Q2 K n a σ with
  | none=>rw[ha]at he;cases he
  | some p=>
   obtain⟨e,s⟩:=p;rw[ha]at he;rw[iha ha];cases e
   ·exact ihb he
   ·exact he
   ·exact he
 | cond c a b iha ihb=>
  intro σ x he;rw[Hy];simp only[Q2]at he;split at he
  ·rename_i hv;rw[hv];exact iha he
  ·rename_i hv;rw[hv];exact ihb he
  ·cases he
 | block id c ih=>
  intro σ x he;rw[L0];simp only[Q2]at he;cases ha:Q2 K n c σ with
  | none=>rw[ha]at he;cases he
  | some p=>rw[ha]at he;rw[ih ha];exact he
 | loop c ih=>
  intro σ x he;simp only[Q2]at he;have key: ∀(m:Nat) (σ:St) (x:Ex×St),Vk (Q2 K n c) m σ=some x→run T (.loop c) σ=some x:=by
   intro m
   induction m with
   | zero=>intro σ x he;simp[Vk]at he
   | succ m IH=>
    intro σ x he;rw[HA];simp only[Vk]at he;cases ha:Q2 K n c σ with
    | none=>rw[ha]at he;cases he
    | some p=>
     obtain⟨e,s⟩:=p;rw[ha]at he;rw[ih ha];cases e
     ·exact IH _ _ he
     ·exact he
     ·exact he
  exact key n σ x he
abbrev Qi:=Nat×List AV×List (List AV)×AV×List (List AV)
def Mw:List Qi→Nat→List AV→List (List AV)→Option (AV×List (List AV))
 | [],_,_,_=>none
 | (g,ar,b,v,b2):: fs,f,args,bs=>if(g == f && eqVE b bs && eqVL ar args)=true then some (v,b2)else Mw fs f args bs
def Qs (T:Nat→Option AFn) (fs:List Qi):Nat→ZJ
 | 0,_,_,_=>none
 | n+1,f,args,bs=>match Mw fs f args bs with
  | some r=>some r
  | none=>match T f with
   | none=>none
   | some (.orc g)=>g args bs
   | some (.code fn)=>
    if args.length=fn.nparams then
     match Q2 (Qs T fs n) n fn.body {env:=YK args,bs}with
     | some (.normal,σ)=>Yn fn bs σ
     | some (.ret,σ)=>Yn fn bs σ
     | _=>none
    else none
def Ql (T:Nat→Option AFn):List Qi→Prop
 | []=>True
 | (g,ar,b,v,b2):: fs=>call T g ar b=some (v,b2)∧Ql T fs
theorem He {T:Nat→Option AFn}: ∀{fs:List Qi},Ql T fs→∀{f args bs r},Mw fs f args bs=some r→call T f args bs=some r
 | [],_,_,_,_,_,h=>by simp[Mw]at h
 | (g,ar,b,v,b2):: fs,hf,f,args,bs,r,h=>by
  simp only[Mw]at h;split at h
  ·rename_i c;simp only[Bool.and_eq_true,beq_iff_eq]at c;obtain⟨⟨rfl,e2⟩,e⟩:=c;have e:=eqVL_eq _ _ e;have e2:=eqVE_eq _ _ e2;subst e;subst e2;cases h;exact hf.1
  ·exact He hf.2 h
theorem Qj {T:Nat→Option AFn} {fs:List Qi} (hf:Ql T fs): ∀n,KLe (Qs T fs n) (call T)
 | 0,_,_,_,_,h=>by simp[Qs]at h
 | n+1,f,args,bs,r,h=>by
  simp only[Qs]at h;split at h
  ·rename_i r' hl;cases h;exact He hf hl
  ·rw[Ld];have ih:=Qj hf n;split at h
   ·cases h
   ·rename_i g hg;rw[hg];exact h
   ·rename_i fn hg;rw[hg];simp only;split at h
    ·rename_i hl;rw[if_pos hl];split at h
     ·rename_i σ hr;rw[Hx ih hr];exact h
     ·rename_i σ hr;rw[Hx ih hr];exact h
     ·cases h
    ·cases h
def Kr:List (List AV):=[[.str [97]],[.str [98]]]
def Ks:List UInt8:=[115,107]
def YR:List AV:=[.int .i64 2,.str [97],.int .i64 1,.sl false 4 []]
def Z1:List AV:=[.int .i64 3,.str Ks,.int .i64 0,.sl false 4 [YR]]
def Y9:List AV:=[.int .i64 3,.str [112,107],.int .i64 0,.sl false 4 [Z1]]
def Xv:List AV:=[.int .i64 2,.str [98],.int .i64 1,.sl false 4 []]
def Z2:List AV:=[.int .i64 3,.str Ks,.int .i64 0,.sl false 4 [Xv]]
def Xa:List AV:=[.int .i64 3,.str [112,107],.int .i64 0,.sl false 4 [Z2]]
def FS:List AV:=[.sl false 1 Kr,.sl false 1 [],.sl false 4 [Y9,Xa]]
def Xw:List AV:=[.int .i64 2,.str [110],.int .i64 2,.sl false 4 []]
def Yy:List AV:=[.int .i64 2,.str [107],.int .i64 3,.sl false 4 []]
def YJ:List AV:=[.int .i64 3,.str [101,110,99],.int .i64 0,.sl false 4 [Xw,Yy]]
def Tj:List (List AV):=[Y9,Xa,YJ,Yy]
def VU:List AV:=[.sl false 1 Kr,.sl false 1 [],.sl false 4 Tj]
def PQ:List (List AV):=[YR,Xv,Yy,Xw,Z1,Z2,YJ,Y9,Xa]
def UA:List AV:=[.int .i64 2,.str [101,35,48],.int .i64 2,.sl false 4 []]
def J4:List (List AV):=[UA,Xw]
def J5:List UInt8:=[112,97,105,114]
def NX:List AV:=[.int .i64 3,.str J5,.int .i64 0,.sl false 4 [[.int .i64 1,.str [120],.int .i64 2,.sl false 4 []],YR]]
def Tk:List AV:=[.int .i64 3,.str J5,.int .i64 0,.sl false 4 [UA,YR]]
def Qk:List (List AV):=[NX,[],[]]
def J6:List (List AV):=[YR,Xv,UA,Yy,Xw,Z1,Z2,YJ,Tk,Y9,Xa]
def VV:List (List AV):=[Yy,YJ,Y9,Xa]
def Sg:List (List AV):=[YR,Yy,YJ,Y9,Xa]
def UB:List (List AV):=[YR,Xv,Yy,YJ,Y9,Xa]
def J7:List (List AV):=[YR,Xv,UA,Yy,YJ,Y9,Xa]
def Wi:List (List AV):=[YR,Xv,UA,Yy,Xw,YJ,Y9,Xa]
def NY:List AV:=[.sl false 1 [],.int .i64 4]
def PR:List (List AV):=[[.int .i64 3,.str Ks,.int .i64 0,.sl false 4 [YR],.int .i64 1]]
def PT:List (List AV):=[[.int .i64 3,.str Ks,.int .i64 0,.sl false 4 [Xv],.int .i64 1]]
def WD:List (List AV):=[YR,Xv,UA,Yy,Xw,YJ,Tk,Y9,Xa]
def Tl:List AV:=[.int .i64 3,.str J5,.int .i64 0,.sl false 4 [Xw,YR]]
def J8:List (List AV):=[YR,Xv,Yy,Xw,Z1,Z2,YJ,Tl,Y9,Xa]
def Wj:List (List AV):=[YR,Xv,Yy,Xw,YJ,Y9,Xa]
def WE:List (List AV):=[YR,Xv,Yy,Xw,YJ,Tl,Y9,Xa]
def VW:List AV:=[.int .i64 2,.str [101,35,48],.int .i64 4,.sl false 4 []]
def N0:List AV:=[.int .i64 3,.str [104,97,115,104],.int .i64 0,.sl false 4 [[.int .i64 1,.str [120],.int .i64 4,.sl false 4 []]]]
def Tn:List AV:=[.int .i64 3,.str [104,97,115,104],.int .i64 0,.sl false 4 [VW]]
def QJ:List (List AV):=[N0,[]]
def J9:List (List AV):=[YR,Xv,VW,Yy,Xw,Tn,Z1,Z2,YJ,Y9,Xa]
def Ia:List (List AV):=[YR,Xv,VW,Yy,YJ,Y9,Xa]
def Ib:List (List AV):=[YR,Xv,VW,Yy,Xw,YJ,Y9,Xa]
def WF:List (List AV):=[YR,Xv,VW,Yy,Xw,Tn,YJ,Y9,Xa]
def FI:List Qi:=[]
def OI:Qi:=(479,[.agg [.sl false 1 Kr,.sl false 1 []]],[],.tup [.sl false 4 [Y9,Xa],.int .i64 0],[])
def FJ:List Qi:=OI:: FI
def OJ:Qi:=(478,[.agg [.sl false 1 Kr,.sl true 1 []]],[],.tup [.agg FS,.int .i64 0],[])
def FK:List Qi:=OJ:: FJ
def OK:Qi:=(502,[.agg FS],[],.int .i64 0,[])
def FL:List Qi:=OK:: FK
def OL:Qi:=(501,[.agg FS,.sl false 4 [YJ,Yy]],[],.tup [.agg VU,.int .i64 0],[])
def FM:List Qi:=OL:: FL
def OM:Qi:=(502,[.agg VU],[],.int .i64 0,[])
def FN:List Qi:=OM:: FM
def ON:Qi:=(511,[.sl false 4 Tj],[],.sl true 4 PQ,[])
def FO:List Qi:=ON:: FN
def OO:Qi:=(513,[.agg VU,.sl false 4 PQ,.int .i64 2],[],.sl true 4 J4,[])
def FP:List Qi:=OO:: FO
def OP:Qi:=(510,[.agg VU,.int .i64 2],[],.tup [.sl false 4 J4,.int .i64 0],[])
def FQ:List Qi:=OP:: FP
def OQ:Qi:=(513,[.agg VU,.sl false 4 PQ,.int .i64 2],[NX],.sl true 4 J4,[NX])
def FR:List Qi:=OQ:: FQ
def OR:Qi:=(519,[.sl false 4 [Y9,Xa,YJ,Yy,Tk]],Qk,.int .i64 0,Qk)
def Kz:List Qi:=OR:: FR
def Sh:Qi:=(521,[.sl false 4 J6],Qk,.int .i64 0,Qk)
def KA:List Qi:=Sh:: Kz
def Si:Qi:=(518,[.sl false 4 Tj,.sl false 4 [Tk]],Qk,.tup [.sl false 4 J6,.int .i64 0],Qk)
def KB:List Qi:=Si:: KA
def Sj:Qi:=(527,[.sl false 4 Tj],Qk,.sl true 4 VV,Qk)
def KC:List Qi:=Sj:: KB
def Sk:Qi:=(531,[.sl false 4 VV,.agg YR],Qk,.bool true,Qk)
def KD:List Qi:=Sk:: KC
def Sl:Qi:=(523,[.sl false 4 VV,.agg YR],Qk,.sl true 4 Sg,Qk)
def KE:List Qi:=Sl:: KD
def Sm:Qi:=(531,[.sl false 4 Sg,.agg Xv],Qk,.bool true,Qk)
def KF:List Qi:=Sm:: KE
def Sn:Qi:=(523,[.sl false 4 Sg,.agg Xv],Qk,.sl true 4 UB,Qk)
def KH:List Qi:=Sn:: KF
def So:Qi:=(531,[.sl false 4 UB,.agg UA],Qk,.bool true,Qk)
def KI:List Qi:=So:: KH
def Sp:Qi:=(523,[.sl false 4 UB,.agg UA],Qk,.sl true 4 J7,Qk)
def KJ:List Qi:=Sp:: KI
def Sq:Qi:=(531,[.sl false 4 J7,.agg Xw],Qk,.bool true,Qk)
def KL:List Qi:=Sq:: KJ
def Sr:Qi:=(523,[.sl false 4 J7,.agg Xw],Qk,.sl true 4 Wi,Qk)
def KN:List Qi:=Sr:: KL
def Ss:Qi:=(527,[.sl false 4 [Z1]],Qk,.sl true 4 [Z1],Qk)
def KO:List Qi:=Ss:: KN
def Su:Qi:=(541,[.sl false 4 [],.agg Z1],Qk,.tup NY,Qk)
def KP:List Qi:=Su:: KO
def Sv:Qi:=(539,[.sl false 4 Wi,.agg Z1],Qk,.bool false,Qk)
def KQ:List Qi:=Sv:: KP
def Sw:Qi:=(552,[.sl false 4 Wi,.agg Z1],Qk,.bool false,Qk)
def KR:List Qi:=Sw:: KQ
def Sx:Qi:=(555,[.sl false 4 Wi,.sl false 5 PR],Qk,.bool false,Qk)
def KS:List Qi:=Sx:: KR
def Sz:Qi:=(568,[.sl false 4 Wi,.agg Z1],Qk,.bool false,Qk)
def KT:List Qi:=Sz:: KS
def SA:Qi:=(531,[.sl false 4 Wi,.agg Z1],Qk,.bool false,Qk)
def KU:List Qi:=SA:: KT
def SB:Qi:=(527,[.sl false 4 [Z2]],Qk,.sl true 4 [Z2],Qk)
def KV:List Qi:=SB:: KU
def SC:Qi:=(541,[.sl false 4 [],.agg Z2],Qk,.tup NY,Qk)
def KW:List Qi:=SC:: KV
def SD:Qi:=(539,[.sl false 4 Wi,.agg Z2],Qk,.bool false,Qk)
def KX:List Qi:=SD:: KW
def SE:Qi:=(552,[.sl false 4 Wi,.agg Z2],Qk,.bool false,Qk)
def KY:List Qi:=SE:: KX
def SF:Qi:=(555,[.sl false 4 Wi,.sl false 5 PT],Qk,.bool false,Qk)
def KZ:List Qi:=SF:: KY
def SG:Qi:=(568,[.sl false 4 Wi,.agg Z2],Qk,.bool false,Qk)
def K0:List Qi:=SG:: KZ
def SH:Qi:=(531,[.sl false 4 Wi,.agg Z2],Qk,.bool false,Qk)
def K1:List Qi:=SH:: K0
def SI:Qi:=(531,[.sl false 4 Wi,.agg Tk],Qk,.bool true,Qk)
def K2:List Qi:=SI:: K1
def SJ:Qi:=(523,[.sl false 4 Wi,.agg Tk],Qk,.sl true 4 WD,Qk)
def K3:List Qi:=SJ:: K2
def SK:Qi:=(539,[.sl false 4 WD,.agg Z1],Qk,.bool false,Qk)
def K4:List Qi:=SK:: K3
def SL:Qi:=(552,[.sl false 4 WD,.agg Z1],Qk,.bool false,Qk)
def K5:List Qi:=SL:: K4
def SM:Qi:=(555,[.sl false 4 WD,.sl false 5 PR],Qk,.bool false,Qk)
def K6:List Qi:=SM:: K5
def SN:Qi:=(568,[.sl false 4 WD,.agg Z1],Qk,.bool false,Qk)
def K7:List Qi:=SN:: K6
def SO:Qi:=(531,[.sl false 4 WD,.agg Z1],Qk,.bool false,Qk)
def K8:List Qi:=SO:: K7
def SP:Qi:=(539,[.sl false 4 WD,.agg Z2],Qk,.bool false,Qk)
def K9:List Qi:=SP:: K8
def SQ:Qi:=(552,[.sl false 4 WD,.agg Z2],Qk,.bool false,Qk)
def Ja:List Qi:=SQ:: K9
def SR:Qi:=(555,[.sl false 4 WD,.sl false 5 PT],Qk,.bool false,Qk)
def Jb:List Qi:=SR:: Ja
def SS:Qi:=(568,[.sl false 4 WD,.agg Z2],Qk,.bool false,Qk)
def Jc:List Qi:=SS:: Jb
def ST:Qi:=(531,[.sl false 4 WD,.agg Z2],Qk,.bool false,Qk)
def Jd:List Qi:=ST:: Jc
def SU:Qi:=(529,[.sl false 4 VV,.sl false 4 J6],Qk,.sl false 4 WD,Qk)
def Je:List Qi:=SU:: Jd
def SV:Qi:=(519,[.sl false 4 [Y9,Xa,YJ,Yy,Tl]],Qk,.int .i64 0,Qk)
def Jf:List Qi:=SV:: Je
def SW:Qi:=(521,[.sl false 4 J8],Qk,.int .i64 0,Qk)
def Jg:List Qi:=SW:: Jf
def SX:Qi:=(518,[.sl false 4 Tj,.sl false 4 [Tl]],Qk,.tup [.sl false 4 J8,.int .i64 0],Qk)
def Jh:List Qi:=SX:: Jg
def SY:Qi:=(531,[.sl false 4 UB,.agg Xw],Qk,.bool true,Qk)
def Ji:List Qi:=SY:: Jh
def SZ:Qi:=(523,[.sl false 4 UB,.agg Xw],Qk,.sl true 4 Wj,Qk)
def Jj:List Qi:=SZ:: Ji
def S0:Qi:=(539,[.sl false 4 Wj,.agg Z1],Qk,.bool false,Qk)
def Jk:List Qi:=S0:: Jj
def S1:Qi:=(552,[.sl false 4 Wj,.agg Z1],Qk,.bool false,Qk)
def Jl:List Qi:=S1:: Jk
def S2:Qi:=(555,[.sl false 4 Wj,.sl false 5 PR],Qk,.bool false,Qk)
def Jm:List Qi:=S2:: Jl
def S3:Qi:=(568,[.sl false 4 Wj,.agg Z1],Qk,.bool false,Qk)
def Jn:List Qi:=S3:: Jm
def S4:Qi:=(531,[.sl false 4 Wj,.agg Z1],Qk,.bool false,Qk)
def Jo:List Qi:=S4:: Jn
def S5:Qi:=(539,[.sl false 4 Wj,.agg Z2],Qk,.bool false,Qk)
def Jp:List Qi:=S5:: Jo
def S6:Qi:=(552,[.sl false 4 Wj,.agg Z2],Qk,.bool false,Qk)
def Jq:List Qi:=S6:: Jp
def S7:Qi:=(555,[.sl false 4 Wj,.sl false 5 PT],Qk,.bool false,Qk)
def Jr:List Qi:=S7:: Jq
def S8:Qi:=(568,[.sl false 4 Wj,.agg Z2],Qk,.bool false,Qk)
def Js:List Qi:=S8:: Jr
def S9:Qi:=(531,[.sl false 4 Wj,.agg Z2],Qk,.bool false,Qk)
def Jt:List Qi:=S9:: Js
def Ra:Qi:=(531,[.sl false 4 Wj,.agg Tl],Qk,.bool true,Qk)
def Ju:List Qi:=Ra:: Jt
def Rb:Qi:=(523,[.sl false 4 Wj,.agg Tl],Qk,.sl true 4 WE,Qk)
def Jv:List Qi:=Rb:: Ju
def Rc:Qi:=(539,[.sl false 4 WE,.agg Z1],Qk,.bool false,Qk)
def Jw:List Qi:=Rc:: Jv
def Rd:Qi:=(552,[.sl false 4 WE,.agg Z1],Qk,.bool false,Qk)
def Jx:List Qi:=Rd:: Jw
def Re:Qi:=(555,[.sl false 4 WE,.sl false 5 PR],Qk,.bool false,Qk)
def Jy:List Qi:=Re:: Jx
def Rf:Qi:=(568,[.sl false 4 WE,.agg Z1],Qk,.bool false,Qk)
def Jz:List Qi:=Rf:: Jy
def Rg:Qi:=(531,[.sl false 4 WE,.agg Z1],Qk,.bool false,Qk)
def JA:List Qi:=Rg:: Jz
def Rh:Qi:=(539,[.sl false 4 WE,.agg Z2],Qk,.bool false,Qk)
def JB:List Qi:=Rh:: JA
def Ri:Qi:=(552,[.sl false 4 WE,.agg Z2],Qk,.bool false,Qk)
def JC:List Qi:=Ri:: JB
def Rj:Qi:=(555,[.sl false 4 WE,.sl false 5 PT],Qk,.bool false,Qk)
def JD:List Qi:=Rj:: JC
def Rk:Qi:=(568,[.sl false 4 WE,.agg Z2],Qk,.bool false,Qk)
def JE:List Qi:=Rk:: JD
def Rl:Qi:=(531,[.sl false 4 WE,.agg Z2],Qk,.bool false,Qk)
def JF:List Qi:=Rl:: JE
def Rm:Qi:=(529,[.sl false 4 VV,.sl false 4 J8],Qk,.sl false 4 WE,Qk)
def JG:List Qi:=Rm:: JF
def Rn:Qi:=(515,[.agg VU,.agg NX],[],.tup [.sl false 4 [Tk,Tl],.int .i64 0],[])
def JH:List Qi:=Rn:: JG
def Ro:Qi:=(513,[.agg VU,.sl false 4 PQ,.int .i64 4],[],.sl true 4 [VW],[])
def JI:List Qi:=Ro:: JH
def Rp:Qi:=(513,[.agg VU,.sl false 4 PQ,.int .i64 4],[N0],.sl true 4 [VW],[N0])
def JJ:List Qi:=Rp:: JI
def Rq:Qi:=(519,[.sl false 4 [Y9,Xa,YJ,Yy,Tn]],QJ,.int .i64 0,QJ)
def JK:List Qi:=Rq:: JJ
def Rr:Qi:=(521,[.sl false 4 J9],QJ,.int .i64 0,QJ)
def JL:List Qi:=Rr:: JK
def Rs:Qi:=(518,[.sl false 4 Tj,.sl false 4 [Tn]],QJ,.tup [.sl false 4 J9,.int .i64 0],QJ)
def JM:List Qi:=Rs:: JL
def Rt:Qi:=(527,[.sl false 4 Tj],QJ,.sl true 4 VV,QJ)
def JN:List Qi:=Rt:: JM
def Ru:Qi:=(531,[.sl false 4 VV,.agg YR],QJ,.bool true,QJ)
def JO:List Qi:=Ru:: JN
def Rv:Qi:=(523,[.sl false 4 VV,.agg YR],QJ,.sl true 4 Sg,QJ)
def JP:List Qi:=Rv:: JO
def Rw:Qi:=(531,[.sl false 4 Sg,.agg Xv],QJ,.bool true,QJ)
def JQ:List Qi:=Rw:: JP
def Rx:Qi:=(523,[.sl false 4 Sg,.agg Xv],QJ,.sl true 4 UB,QJ)
def JR:List Qi:=Rx:: JQ
def Ry:Qi:=(531,[.sl false 4 UB,.agg VW],QJ,.bool true,QJ)
def JS:List Qi:=Ry:: JR
def Rz:Qi:=(523,[.sl false 4 UB,.agg VW],QJ,.sl true 4 Ia,QJ)
def JT:List Qi:=Rz:: JS
def RA:Qi:=(531,[.sl false 4 Ia,.agg Xw],QJ,.bool true,QJ)
def JU:List Qi:=RA:: JT
def RB:Qi:=(523,[.sl false 4 Ia,.agg Xw],QJ,.sl true 4 Ib,QJ)
def JV:List Qi:=RB:: JU
def RC:Qi:=(531,[.sl false 4 Ib,.agg Tn],QJ,.bool true,QJ)
def JW:List Qi:=RC:: JV
def RD:Qi:=(523,[.sl false 4 Ib,.agg Tn],QJ,.sl true 4 WF,QJ)
def JX:List Qi:=RD:: JW
def RE:Qi:=(527,[.sl false 4 [Z1]],QJ,.sl true 4 [Z1],QJ)
def JY:List Qi:=RE:: JX
def RF:Qi:=(541,[.sl false 4 [],.agg Z1],QJ,.tup NY,QJ)
def JZ:List Qi:=RF:: JY
def RG:Qi:=(539,[.sl false 4 WF,.agg Z1],QJ,.bool false,QJ)
def J0:List Qi:=RG:: JZ
def RH:Qi:=(552,[.sl false 4 WF,.agg Z1],QJ,.bool false,QJ)
def J1:List Qi:=RH:: J0
def RI:Qi:=(555,[.sl false 4 WF,.sl false 5 PR],QJ,.bool false,QJ)
def J2:List Qi:=RI:: J1
def RJ:Qi:=(568,[.sl false 4 WF,.agg Z1],QJ,.bool false,QJ)
def J3:List Qi:=RJ:: J2
def RK:Qi:=(531,[.sl false 4 WF,.agg Z1],QJ,.bool false,QJ)
def MQ:List Qi:=RK:: J3
def U0:Qi:=(527,[.sl false 4 [Z2]],QJ,.sl true 4 [Z2],QJ)
def MR:List Qi:=U0:: MQ
def U1:Qi:=(541,[.sl false 4 [],.agg Z2],QJ,.tup NY,QJ)
def MS:List Qi:=U1:: MR
def U2:Qi:=(539,[.sl false 4 WF,.agg Z2],QJ,.bool false,QJ)
def MT:List Qi:=U2:: MS
def U3:Qi:=(552,[.sl false 4 WF,.agg Z2],QJ,.bool false,QJ)
def MU:List Qi:=U3:: MT
def U4:Qi:=(555,[.sl false 4 WF,.sl false 5 PT],QJ,.bool false,QJ)
def MV:List Qi:=U4:: MU
def U5:Qi:=(568,[.sl false 4 WF,.agg Z2],QJ,.bool false,QJ)
def MW:List Qi:=U5:: MV
def U6:Qi:=(531,[.sl false 4 WF,.agg Z2],QJ,.bool false,QJ)
def MY:List Qi:=U6:: MW
def U7:Qi:=(529,[.sl false 4 VV,.sl false 4 J9],QJ,.sl false 4 WF,QJ)
def MZ:List Qi:=U7:: MY
def U8:Qi:=(515,[.agg VU,.agg N0],[],.tup [.sl false 4 [Tn],.int .i64 0],[])
def Gy:List Qi:=U8:: MZ
end Go.Am
