/-
  AmMemo, PfMD.
-/
import Derived.Test.YtmlbinmlblbfgaaGreatDoorG15
import Derived.KernelRfl
set_option linter.all false
namespace Go.Am
def I2 {T:Xx} {K:ZJ} (h:KLe K (call T)) {n:Nat}: ∀{c:AC} {σ:St} {x:Ex×St},Q7 K n c σ=some x->run T c σ=some x:=by
 intro c
 induction c with
 | bad=>intro σ x he;simp[Q7]at he
 | skip=>intro σ x he;rw[I7];exact he
 | ret=>intro σ x he;rw[GQ];exact he
 | exit id=>intro σ x he;rw[I4];exact he
 | reg d ops=>
  intro σ x he;rw[GP];simp only[Q7]at he;cases hr:Zz K ops σ with
  | none=>rw[hr]at he;cases he
  | some s=>rw[VH h hr];rw[hr]at he;exact he
 | seq a b iha ihb=>
  intro σ x he;rw[GR];simp only[Q7]at he;cases ha:Q7 K n a σ with
  | none=>rw[ha]at he;cases he
  | some p=>
   obtain⟨e,s⟩:=p;rw[ha]at he;rw[iha ha];cases e
   ·exact ihb he
   ·exact he
   ·exact he
 | cond c a b iha ihb=>
  intro σ x he;rw[I3];simp only[Q7]at he;split at he
  ·rename_i hv;rw[hv];exact iha he
  ·rename_i hv;rw[hv];exact ihb he
  ·cases he
 | block id c ih=>
  intro σ x he;rw[Li];simp only[Q7]at he;cases ha:Q7 K n c σ with
  | none=>rw[ha]at he;cases he
  | some p=>rw[ha]at he;rw[ih ha];exact he
 | loop c ih=>
  intro σ x he;simp only[Q7]at he;have key: ∀(m:Nat) (σ:St) (x:Ex×St),VB (Q7 K n c) m σ=some x->run T (.loop c) σ=some x:=by
   intro m
   induction m with
   | zero=>intro σ x he;simp[VB]at he
   | succ m IH=>
    intro σ x he;rw[I6];simp only[VB]at he;cases ha:Q7 K n c σ with
    | none=>rw[ha]at he;cases he
    | some p=>
     obtain⟨e,s⟩:=p;rw[ha]at he;rw[ih ha];cases e
     ·exact IH _ _ he
     ·exact he
     ·exact he
  exact key n σ x he
abbrev QN:=Nat×List AV×List (List AV)×AV×List (List AV)
abbrev Qw:=List QN
def NO:Qw->Nat->Qf->Qd->Option (AV×Qd)
 | [],_,_,_=>none
 | (g,ar,b,v,b2):: fs,f,args,bs=>if(g == f && T6 b bs && WT ar args)=true then some (v,b2)else NO fs f args bs
def P0 (T:Xx) (fs:Qw):Nat->ZJ
 | 0,_,_,_=>none
 | n+1,f,args,bs=>match NO fs f args bs with
  | some r=>some r
  | none=>match T f with
   | none=>none
   | some (.orc g)=>g args bs
   | some (.code fn)=>
    if args.length=fn.nparams then
     match Q7 (P0 T fs n) n fn.body {env:=Ys args,bs}with
     | some (.normal,σ)=>Yj fn bs σ
     | some (.ret,σ)=>Yj fn bs σ
     | _=>none
    else none
def TF (T:Xx):Qw->Prop
 | []=>True
 | (g,ar,b,v,b2):: fs=>call T g ar b=some (v,b2)/\TF T fs
def IG {T:Xx}: ∀{fs:Qw},TF T fs->∀{f args bs r},NO fs f args bs=some r->call T f args bs=some r
 | [],_,_,_,_,_,h=>by simp[NO]at h
 | (g,ar,b,v,b2):: fs,hf,f,args,bs,r,h=>by
  simp only[NO]at h;split at h
  ·rename_i c;simp only[Qi,XL]at c;obtain⟨⟨rfl,e2⟩,e⟩:=c;have e:=XG _ _ e;have e2:=SZ _ _ e2;subst e;subst e2;cases h;exact hf.1
  ·exact IG hf.2 h
def OB {T:Xx} {fs:Qw} (hf:TF T fs): ∀n,KLe (P0 T fs n) (call T)
 | 0,_,_,_,_,h=>by simp[P0]at h
 | n+1,f,args,bs,r,h=>by
  simp only[P0]at h;split at h
  ·rename_i r' hl;cases h;exact IG hf hl
  ·rw[Mi];have ih:=OB hf n;split at h
   ·cases h
   ·rename_i g hg;rw[hg];exact h
   ·rename_i fn hg;rw[hg];simp only;split at h
    ·rename_i hl;rw[Qh hl];split at h
     ·rename_i σ hr;rw[I2 ih hr];exact h
     ·rename_i σ hr;rw[I2 ih hr];exact h
     ·cases h
    ·cases h
def QQ (T:Xx) (L:Qw) (x:QN):Option (AV×Qd):=P0 T L 400 x.1 x.2.1 x.2.2.1
def QR {T:Xx} {L:Qw} {x:QN} (o:TF T L) (c:QQ T L x=some x.2.2.2):TF T (x:: L):=⟨OB o _ _ _ _ _ c,o⟩
def Qbm:Qb:=[101,110,99,40,109,58,97,110,121,44,32,107,58,107,101,121,41]
def OT:Qf:=[.int .i64 2,.str [109],.int .i64 0,.sl false 4 []]
def LD:Qf:=[.int .i64 2,.str [107],.int .i64 3,.sl false 4 []]
def G4:Qf:=[.int .i64 3,.str [101,110,99],.int .i64 0,.sl false 4 [OT,LD]]
def Qbn:Qb:=[112,97,105,114,40,110,58,110,111,110,99,101,44,32,107,58,107,101,121,41]
def Qbo:Qd:=[[.int .i64 2,.str [110],.int .i64 2,.sl false 4 []],LD]
def G5:Qf:=[.int .i64 3,.str [112,97,105,114],.int .i64 0,.sl false 4 Qbo]
def Qbp:Qf:=[.int .i64 1,.int .i64 0,.sl false 1 [],.sl false 1 [],.int .i64 3,.str [101,110,99],.int .i64 0,.sl false 4 [OT,LD]]
def Qbq:Qf:=[.int .i64 1,.int .i64 1,.sl false 1 [],.sl false 1 [],.int .i64 3,.str [112,97,105,114],.int .i64 0,.sl false 4 Qbo]
def LF:Qd:=[[.int .i64 1]]
def D7:Qf:=[.int .i64 5,.int .i64 0,.sl false 1 LF,.sl false 1 [],.int .i64 2,.str [107],.int .i64 3,.sl false 4 []]
def D8:Qb:=[109,58,97,110,121]
def D9:Qf:=[.int .i64 7,.int .i64 0,.sl false 1 [[.int .i64 0],[.int .i64 2]],.sl false 1 [],.int .i64 2,.str [109],.int .i64 0,.sl false 4 []]
def SG:Qd:=[Qbp,Qbq,D7,D9]
def Xv:Qf:=[.int .i64 2,.str [97],.int .i64 0,.sl false 4 []]
def SI:Qf:=[.int .i64 2,.str [98],.int .i64 0,.sl false 4 []]
def OU:Qf:=[.int .i64 3,.str [120,111,114],.int .i64 0,.sl false 4 [Xv,SI]]
def OV:Qd:=[OU,SI]
def LV:Qd:=[Xv,SI,OU]
def OW:Qd:=[SI,OU]
def LW:Qd:=[[.int .i64 0],[.int .i64 1]]
def Ca:Qf:=[.sl false 1 LW,.int .i64 0]
def Cb:Qf:=[.bool true,.int .i64 0]
def Cc:Qf:=[.int .i64 1,.int .i64 0,.sl false 1 [],.sl false 1 [],.int .i64 3,.str [120,111,114],.int .i64 0,.sl false 4 [Xv,SI]]
def Cd:Qf:=[.int .i64 1,.int .i64 1,.sl false 1 [],.sl false 1 [],.int .i64 2,.str [98],.int .i64 0,.sl false 4 []]
def V5:Qd:=[[.sl true 8 [Cc,Cd]]]
def U5:Qf:=[.agg [.int .i64 0,.int .i64 0,.sl false 1 [],.sl false 1 [],.int .i64 0,.str [],.int .i64 0,.sl false 4 []],.bool false]
def Ce:Qf:=[.int .i64 14,.int .i64 0,.sl false 1 LW,.sl false 1 [],.int .i64 2,.str [97],.int .i64 0,.sl false 4 []]
def Cf:Qd:=[Cc,Cd,Ce]
def RR:Qb:=[101,120,112]
def V6:Qf:=[.int .i64 2,.str [103],.int .i64 4,.sl false 4 []]
def YK:Qf:=[.int .i64 2,.str [120],.int .i64 2,.sl false 4 []]
def U6:Qf:=[.int .i64 3,.str RR,.int .i64 0,.sl false 4 [V6,YK]]
def V7:Qf:=[.int .i64 2,.str [121],.int .i64 2,.sl false 4 []]
def LX:Qb:=[109,117,108]
def LY:Qd:=[YK,V7]
def Xa:Qf:=[.int .i64 3,.str LX,.int .i64 0,.sl false 4 LY]
def LZ:Qd:=[V6,Xa]
def Xk:Qf:=[.int .i64 3,.str RR,.int .i64 0,.sl false 4 LZ]
def L0:Qd:=[U6,V7]
def Cg:Qd:=[V6,YK,V7,U6,Xa,Xk]
def V8:Qf:=[.sl false 1 [],.int .i64 4]
def XJ:Qd:=[V6,V7,U6]
def Ci:Qf:=[.int .i64 2,.str [120],.int .i64 2,.sl false 4 [],.int .i64 1]
def SJ:Qd:=[Ci]
def Cj:Qf:=[.int .i64 2,.str [121],.int .i64 2,.sl false 4 [],.int .i64 1]
def OX:Qd:=[Ci,Cj]
def Ck:Qd:=[[.sl false 4 XJ],V6,[.sl false 5 OX]]
def W6:Qd:=[V6,V7,U6,Xk]
def L1:Qf:=[.int .i64 1,.int .i64 0,.sl false 1 [],.sl false 1 [],.int .i64 3,.str RR,.int .i64 0,.sl false 4 [V6,YK]]
def L2:Qf:=[.int .i64 1,.int .i64 1,.sl false 1 [],.sl false 1 [],.int .i64 2,.str [121],.int .i64 2,.sl false 4 []]
def Cl:Qf:=[.int .i64 2,.int .i64 0,.sl false 1 [],.sl false 1 [],.int .i64 2,.str [103],.int .i64 4,.sl false 4 []]
def Cm:Qf:=[.sl true 8 [L1,L2,Cl]]
def Zg:Qd:=[Cm]
def L3:Qd:=[U6,V7,V6]
def OY:Qd:=[Cm,[.gp 0 0]]
def Cn:Qf:=[.sl false 1 [],.sl false 1 [],.bool false]
def L4:Qf:=[.int .i64 15,.int .i64 0,.sl false 1 LW,.sl false 1 LF,.int .i64 3,.str RR,.int .i64 0,.sl false 4 LZ]
def RT:Qd:=[G4,G5]
def G3:Qw:=[]
def G6:QN:=(634,[.str Qbm],[],.agg G4,[])
def Qbd:Qw:=G6:: G3
def G7:QN:=(634,[.str Qbn],[],.agg G5,[])
def Qbe:Qw:=G7:: Qbd
def G8:QN:=(649,[.str Qbm],[],.tup [.agg G4,.int .i64 0],[])
def Qbf:Qw:=G8:: Qbe
def G9:QN:=(646,[.str [103,105,118,101,110,32,48,58,32,101,110,99,40,109,58,97,110,121,44,32,107,58,107,101,121,41]],[],.tup [.agg Qbp,.bool true],[])
def Qbg:Qw:=G9:: Qbf
def Fa:QN:=(649,[.str Qbn],[],.tup [.agg G5,.int .i64 0],[])
def Qbh:Qw:=Fa:: Qbg
def Fb:QN:=(646,[.str [103,105,118,101,110,32,49,58,32,112,97,105,114,40,110,58,110,111,110,99,101,44,32,107,58,107,101,121,41]],[],.tup [.agg Qbq,.bool true],[])
def Qbi:Qw:=Fb:: Qbh
def Fc:QN:=(649,[.str [107,58,107,101,121]],[],.tup [.agg LD,.int .i64 0],[])
def Qbj:Qw:=Fc:: Qbi
def Fe:QN:=(646,[.str [115,101,99,111,110,100,32,49,58,32,107,58,107,101,121]],[],.tup [.agg D7,.bool true],[])
def Qbk:Qw:=Fe:: Qbj
def Ff:QN:=(649,[.str D8],[],.tup [.agg OT,.int .i64 0],[])
def Qbl:Qw:=Ff:: Qbk
def Fg:QN:=(646,[.str [100,101,99,32,48,32,50,58,32,109,58,97,110,121]],[],.tup [.agg D9,.bool true],[])
def EG:Qw:=Fg:: Qbl
def L5:QN:=(635,[.str [103,105,118,101,110,32,48,58,32,101,110,99,40,109,58,97,110,121,44,32,107,58,107,101,121,41,10,103,105,118,101,110,32,49,58,32,112,97,105,114,40,110,58,110,111,110,99,101,44,32,107,58,107,101,121,41,10,115,101,99,111,110,100,32,49,58,32,107,58,107,101,121,10,100,101,99,32,48,32,50,58,32,109,58,97,110,121,10]],[],.tup [.sl false 8 SG,.int .i64 0],[])
def EH:Qw:=L5:: EG
def L6:QN:=(634,[.str [120,111,114,40,97,58,97,110,121,44,32,98,58,97,110,121,41]],[],.agg OU,[])
def EI:Qw:=L6:: EH
def L7:QN:=(634,[.str [98,58,97,110,121]],[],.agg SI,[])
def EK:Qw:=L7:: EI
def L8:QN:=(634,[.str [97,58,97,110,121]],[],.agg Xv,[])
def EL:Qw:=L8:: EK
def L9:QN:=(518,[.sl false 4 OV,.sl false 4 [Xv]],[],.tup [.sl false 4 LV,.int .i64 0],[])
def EM:Qw:=L9:: EL
def Ka:QN:=(541,[.sl false 4 OW,.agg Xv],[],.tup Ca,[])
def EN:Qw:=Ka:: EM
def Kb:QN:=(539,[.sl false 4 OW,.agg Xv],[],.bool true,[])
def EO:Qw:=Kb:: EN
def Kc:QN:=(531,[.sl false 4 OW,.agg Xv],[],.bool true,[])
def EP:Qw:=Kc:: EO
def Kd:QN:=(529,[.sl false 4 OW,.sl false 4 LV],[],.sl false 4 LV,[])
def EQ:Qw:=Kd:: EP
def Ke:QN:=(517,[.sl false 4 OV,.agg Xv],[],.tup Cb,[])
def ER:Qw:=Ke:: EQ
def Kf:QN:=(736,[.gp 0 0,.agg Xv],V5,.tup U5,V5)
def ET:Qw:=Kf:: ER
def Kg:QN:=(738,[.gp 0 0,.agg Xv],V5,.tup U5,V5)
def EU:Qw:=Kg:: ET
def Kh:QN:=(541,[.sl false 4 OV,.agg Xv],V5,.tup Ca,V5)
def EV:Qw:=Kh:: EU
def Ki:QN:=(739,[.gp 0 0,.agg Xv],V5,.tup [.agg Ce,.bool true],V5)
def EW:Qw:=Ki:: EV
def Kj:QN:=(667,[.gp 0 0,.agg Xv],V5,.bool true,[[.sl true 8 Cf]])
def EX:Qw:=Kj:: EW
def Kk:QN:=(663,[.sl false 4 OV,.agg Xv],[],.tup [.sl false 8 Cf,.int .i64 0],[])
def EY:Qw:=Kk:: EX
def Kl:QN:=(634,[.str [101,120,112,40,103,58,100,97,116,97,44,32,120,58,110,111,110,99,101,41]],[],.agg U6,[])
def EZ:Qw:=Kl:: EY
def Km:QN:=(634,[.str [121,58,110,111,110,99,101]],[],.agg V7,[])
def E0:Qw:=Km:: EZ
def Ko:QN:=(634,[.str [101,120,112,40,103,58,100,97,116,97,44,32,109,117,108,40,120,58,110,111,110,99,101,44,32,121,58,110,111,110,99,101,41,41]],[],.agg Xk,[])
def E1:Qw:=Ko:: E0
def Kp:QN:=(518,[.sl false 4 L0,.sl false 4 [Xk]],[],.tup [.sl false 4 Cg,.int .i64 0],[])
def E3:Qw:=Kp:: E1
def Kq:QN:=(531,[.sl false 4 [V7,U6],.agg V6],[],.bool true,[])
def E4:Qw:=Kq:: E3
def Kr:QN:=(541,[.sl false 4 [],.agg YK],[],.tup V8,[])
def E5:Qw:=Kr:: E4
def Ks:QN:=(539,[.sl false 4 XJ,.agg YK],[],.bool false,[])
def E6:Qw:=Ks:: E5
def Kt:QN:=(552,[.sl false 4 XJ,.agg YK],[],.bool false,[])
def E7:Qw:=Kt:: E6
def Ku:QN:=(560,[.sl false 1 [],.sl false 5 SJ],[],.tup V8,[])
def E8:Qw:=Ku:: E7
def Kv:QN:=(555,[.sl false 4 XJ,.sl false 5 SJ],[],.bool false,[])
def E9:Qw:=Kv:: E8
def Kw:QN:=(568,[.sl false 4 XJ,.agg YK],[],.bool false,[])
def Da:Qw:=Kw:: E9
def Kx:QN:=(531,[.sl false 4 XJ,.agg YK],[],.bool false,[])
def Db:Qw:=Kx:: Da
def Ky:QN:=(541,[.sl false 4 [],.agg Xa],[],.tup V8,[])
def Dc:Qw:=Ky:: Db
def Kz:QN:=(539,[.sl false 4 XJ,.agg Xa],[],.bool false,[])
def Dd:Qw:=Kz:: Dc
def KA:QN:=(552,[.sl false 4 XJ,.agg Xa],[],.bool false,[])
def De:Qw:=KA:: Dd
def KB:QN:=(555,[.sl false 4 XJ,.sl false 5 OX],[],.bool false,[])
def Df:Qw:=KB:: De
def KC:QN:=(568,[.sl false 4 XJ,.agg Xa],[],.bool false,[])
def Dg:Qw:=KC:: Df
def KD:QN:=(531,[.sl false 4 XJ,.agg Xa],[],.bool false,[])
def Dh:Qw:=KD:: Dg
def KE:QN:=(541,[.sl false 4 [],.agg Xk],[],.tup V8,[])
def Di:Qw:=KE:: Dh
def KF:QN:=(539,[.sl false 4 XJ,.agg Xk],[],.bool false,[])
def Dj:Qw:=KF:: Di
def KG:QN:=(560,[.sl false 1 [],.sl false 5 SJ],Ck,.tup V8,Ck)
def Dk:Qw:=KG:: Dj
def KH:QN:=(552,[.sl false 4 XJ,.agg Xk],[],.bool true,[])
def Dl:Qw:=KH:: Dk
def KI:QN:=(531,[.sl false 4 XJ,.agg Xk],[],.bool true,[])
def Dm:Qw:=KI:: Dl
def KJ:QN:=(539,[.sl false 4 W6,.agg YK],[],.bool false,[])
def Dn:Qw:=KJ:: Dm
def KK:QN:=(552,[.sl false 4 W6,.agg YK],[],.bool false,[])
def Do:Qw:=KK:: Dn
def KL:QN:=(555,[.sl false 4 W6,.sl false 5 SJ],[],.bool false,[])
def Dp:Qw:=KL:: Do
def KM:QN:=(568,[.sl false 4 W6,.agg YK],[],.bool false,[])
def Dq:Qw:=KM:: Dp
def KN:QN:=(531,[.sl false 4 W6,.agg YK],[],.bool false,[])
def Ds:Qw:=KN:: Dq
def KO:QN:=(539,[.sl false 4 W6,.agg Xa],[],.bool false,[])
def Dt:Qw:=KO:: Ds
def KP:QN:=(552,[.sl false 4 W6,.agg Xa],[],.bool false,[])
def Du:Qw:=KP:: Dt
def KQ:QN:=(555,[.sl false 4 W6,.sl false 5 OX],[],.bool false,[])
def Dv:Qw:=KQ:: Du
def KR:QN:=(568,[.sl false 4 W6,.agg Xa],[],.bool false,[])
def Dw:Qw:=KR:: Dv
def KS:QN:=(531,[.sl false 4 W6,.agg Xa],[],.bool false,[])
def Dx:Qw:=KS:: Dw
def KT:QN:=(529,[.sl false 4 [V7,U6],.sl false 4 Cg],[],.sl false 4 W6,[])
def Dy:Qw:=KT:: Dx
def KU:QN:=(517,[.sl false 4 L0,.agg Xk],[],.tup Cb,[])
def Dz:Qw:=KU:: Dy
def KV:QN:=(736,[.gp 0 0,.agg YK],Zg,.tup U5,Zg)
def DA:Qw:=KV:: Dz
def KW:QN:=(738,[.gp 0 0,.agg YK],Zg,.tup U5,Zg)
def DB:Qw:=KW:: DA
def KX:QN:=(541,[.sl false 4 L3,.agg YK],Zg,.tup V8,Zg)
def DC:Qw:=KX:: DB
def KY:QN:=(739,[.gp 0 0,.agg YK],Zg,.tup [.agg [.int .i64 14,.int .i64 0,.sl false 1 [],.sl false 1 [],.int .i64 2,.str [120],.int .i64 2,.sl false 4 []],.bool false],Zg)
def DD:Qw:=KY:: DC
def KZ:QN:=(560,[.sl false 1 [],.sl false 5 SJ],OY,.tup V8,OY)
def DE:Qw:=KZ:: DD
def K0:QN:=(742,[.gp 0 0,.sl false 5 SJ],Zg,.tup Cn,Zg)
def DG:Qw:=K0:: DE
def K1:QN:=(741,[.gp 0 0,.agg YK],Zg,.tup [.agg [.int .i64 16,.int .i64 0,.sl false 1 [],.sl false 1 [],.int .i64 2,.str [120],.int .i64 2,.sl false 4 []],.bool false],Zg)
def DH:Qw:=K1:: DG
def K2:QN:=(667,[.gp 0 0,.agg YK],Zg,.bool false,Zg)
def DI:Qw:=K2:: DH
def K3:QN:=(736,[.gp 0 0,.agg Xa],Zg,.tup U5,Zg)
def DJ:Qw:=K3:: DI
def K4:QN:=(738,[.gp 0 0,.agg Xa],Zg,.tup U5,Zg)
def DK:Qw:=K4:: DJ
def K5:QN:=(541,[.sl false 4 L3,.agg Xa],Zg,.tup V8,Zg)
def DL:Qw:=K5:: DK
def K6:QN:=(739,[.gp 0 0,.agg Xa],Zg,.tup [.agg [.int .i64 14,.int .i64 0,.sl false 1 [],.sl false 1 [],.int .i64 3,.str LX,.int .i64 0,.sl false 4 LY],.bool false],Zg)
def DM:Qw:=K6:: DL
def K7:QN:=(742,[.gp 0 0,.sl false 5 OX],Zg,.tup Cn,Zg)
def DN:Qw:=K7:: DM
def K8:QN:=(741,[.gp 0 0,.agg Xa],Zg,.tup [.agg [.int .i64 16,.int .i64 0,.sl false 1 [],.sl false 1 [],.int .i64 3,.str LX,.int .i64 0,.sl false 4 LY],.bool false],Zg)
def DO:Qw:=K8:: DN
def K9:QN:=(667,[.gp 0 0,.agg Xa],Zg,.bool false,Zg)
def DP:Qw:=K9:: DO
def Ja:QN:=(736,[.gp 0 0,.agg Xk],Zg,.tup U5,Zg)
def DQ:Qw:=Ja:: DP
def Jb:QN:=(738,[.gp 0 0,.agg Xk],Zg,.tup U5,Zg)
def DU:Qw:=Jb:: DQ
def Jc:QN:=(541,[.sl false 4 L3,.agg Xk],Zg,.tup V8,Zg)
def DV:Qw:=Jc:: DU
def Jd:QN:=(739,[.gp 0 0,.agg Xk],Zg,.tup [.agg [.int .i64 14,.int .i64 0,.sl false 1 [],.sl false 1 [],.int .i64 3,.str RR,.int .i64 0,.sl false 4 LZ],.bool false],Zg)
def DW:Qw:=Jd:: DV
def Je:QN:=(560,[.sl false 1 [],.sl false 5 []],OY,.tup [.sl false 1 [],.int .i64 0],OY)
def DX:Qw:=Je:: DW
def Jf:QN:=(742,[.gp 0 0,.sl false 5 [Cj]],Zg,.tup [.sl false 1 LF,.sl false 1 LF,.bool true],Zg)
def DY:Qw:=Jf:: DX
def Jg:QN:=(741,[.gp 0 0,.agg Xk],Zg,.tup [.agg L4,.bool true],Zg)
def DZ:Qw:=Jg:: DY
def Jh:QN:=(667,[.gp 0 0,.agg Xk],Zg,.bool true,[[.sl true 8 [L1,L2,Cl,L4]]])
def D0:Qw:=Jh:: DZ
def Ji:QN:=(663,[.sl false 4 L0,.agg Xk],[],.tup [.sl false 8 [L1,L2,L4],.int .i64 0],[])
def D1:Qw:=Ji:: D0
def Jj:QN:=(634,[.str D8],[],.agg OT,[])
def D2:Qw:=Jj:: D1
def Jk:QN:=(351,[.sl false 4 RT,.sl false 8 SG,.int .i64 0],[],.bool true,[])
def D3:Qw:=Jk:: D2
def Jl:QN:=(351,[.sl false 4 RT,.sl false 8 SG,.int .i64 1],[],.bool true,[])
def D4:Qw:=Jl:: D3
def Jm:QN:=(351,[.sl false 4 RT,.sl false 8 SG,.int .i64 2],[],.bool true,[])
def D5:Qw:=Jm:: D4
def Jn:QN:=(351,[.sl false 4 RT,.sl false 8 SG,.int .i64 3],[],.bool true,[])
def D6:Qw:=Jn:: D5
def Jo:QN:=(348,[.sl false 4 RT,.sl false 8 SG,.agg OT],[],.bool true,[])
def Qfq:Qw:=Jo:: D6
end Go.Am
