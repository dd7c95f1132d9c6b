/-
  En17, En18, En19, En20, En21, En22, En23, En24, En25, En26, En30, En31, En32, En33, En34, En35, En36, En37.
-/
import Derived.Test.YtjkjecpalfmohaaGreatDoorG20
set_option linter.all false
open Go.Am.F
namespace Go.Am
set_option maxRecDepth 20000
def Sst (B0:Qa) (acc:Qc) (bs:Qa):Prop:=
 B0.length+1<=bs.length/\bs.take B0.length=B0/\
  ((acc=[]/\bs[B0.length]? =some [.gs 0 0 0 0])\/(acc≠[]/\∃g,B0.length < g/\bs[B0.length]? =some [.gs g 0 4 acc.length]/\bs[g]? =some (Qr acc)))
def Bi (B0:Qa) (acc:Qc) (bs:Qa) (x:Tm) (hw:Sst B0 acc bs) (ha:acc.length < 100000000):
  ∃bs',call tb 512 [.agg (Qf x),.gp B0.length 0] bs=some (.tup [],bs')/\Sst B0 (acc ++ [x]) bs':=by
 obtain⟨h1,h2,h4⟩:=hw;have hgx:=Qk x
 ·rcases h4 with⟨rfl,h4⟩ | ⟨hne,g,hg,h4,h5⟩
  ·have hl1: ¬bs.length=B0.length:=by omega
   refine⟨((bs ++ [Qf x]).set B0.length [.gs bs.length 0 4 1]),?_,?_⟩
   ·rw[zcc 512 rfl rfl];have e1: (bs ++ [Vu])[bs.length]? =some Vu:=Ye;have e2: (bs ++ [Vu]).set bs.length (Qf x)=bs ++ [Qf x]:=by rw[SK];simp
    have e3: (bs ++ [Qf x])[B0.length]? =some [.gs 0 0 0 0]:=by rw[ZH (by omega)];exact h4
    simp only[Vu]at e1 e2;simp[f512,f512C,h4,appM,Wh,hl1,e1,e2,e3,Y3]
   ·refine⟨by simp;omega,?_,.inr ⟨by simp,bs.length,by omega,?_,?_⟩⟩
    ·rw[Rb (by omega) (by omega)];exact h2
    ·rw[Vo (by simp;omega)];simp
    ·rw[Wq (by omega),Ye];simp[YI]
  ·have hl1: ¬bs.length=B0.length:=by omega
   have hgl:=YT h5;have hlen: (Qr acc).length=acc.length*4:=YC QR acc;have hst: (Qr acc).map AV.strip=Qr acc:=YV ZI acc;have htk: (Qr acc).take (acc.length*4)=Qr acc:=YH (by omega);have hb: (acc.length+1)*56<=140737488355328:=by omega
   have hn1: ¬(acc.length+1)*4<=acc.length*4:=by omega
   have hput: (Qr acc ++ Vu).take (acc.length*4)++ (Qf x ++ (Qr acc ++ Vu).drop (acc.length*4+4))=Qr (acc ++ [x]):=by
    rw[<- hlen,PY,Nf (by simp[Vu])];simp[Qr,Vx,PB]
   have hzl: (Qr acc ++ Vu).length=acc.length*4+4:=by rw[Zk,hlen];rfl
   have hne0:Qr acc≠[]:=fun e=>by rw[e]at hlen;cases acc with
    | nil=>exact hne rfl
    | cons y ys=>simp at hlen
   have hlt: (acc.length:Int) < (acc.length:Int)+1:=by omega
   refine⟨((bs.set g []++ [Qr (acc ++ [x])]).set B0.length [.gs bs.length 0 4 (acc.length+1)]),?_,?_⟩
   ·rw[zcc 512 rfl rfl];have e1: (bs.set g []++ [Qr acc ++ Vu])[bs.length]? =some (Qr acc ++ Vu):=by
     have:bs.length=(bs.set g []).length:=by simp
     rw[this];exact Ye
    have e2: (bs.set g []++ [Qr acc ++ Vu]).set bs.length (Qr (acc ++ [x]))=bs.set g []++ [Qr (acc ++ [x])]:=by rw[SK];simp
    have e3: (bs.set g []++ [Qr (acc ++ [x])])[B0.length]? =some [.gs g 0 4 acc.length]:=by
     rw[ZH (by simp;omega),Wq (by omega)];exact h4
    have hz:Vu=[.int .i64 0,.str [],.int .i64 0,.sl false 4 []]:=rfl;rw[hz]at e1 e2 hput hzl;generalize Qr (acc ++ [x])=r2 at *;generalize Qr acc=r1 at *;simp[f512,f512C,h4,h5,appM,Wh,hl1,hb,hne0,hlen,hn1,htk,hst,Y3];generalize r1 ++ [AV.int IntKind.i64 0,AV.str [],AV.int IntKind.i64 0,AV.sl false 4 []]=r3 at *;simp[hlt,e1,e2,e3,hput,hzl,hl1,Y3]
   ·refine⟨by simp;omega,?_,.inr ⟨by simp,bs.length,by omega,?_,?_⟩⟩
    ·rw[Rb (by simp;omega) (by omega),JD (by omega)];exact h2
    ·rw[Vo (by simp;omega)];simp
    ·rw[Wq (by omega)];have:bs.length=(bs.set g []).length:=by simp
     rw[this,Ye]
def SOk (B0:Qa) (acc:Qc) (r:Option (AV×Qa)):Prop:=∃bs',r=some (.tup [],bs')/\Sst B0 acc bs'
def Qb1 (B0:Qa) (t:Tm) (B:Qa) (hm:t.mass < 100000000)
  (ih: ∀x∈t.kids,∀acc bs,Sst B0 acc bs->acc.length+x.nodes < 100000000->SOk B0 (acc ++ ZB x) (call tb 168 [.agg (Qf x),.fn 512 [.gp B0.length 0]] bs)):
  ∀(post pre acc:Qc) (bs:Qa) (ρ:Ql),t.kids=pre ++ post->Sst B0 acc bs->acc.length+Qx post < 100000000->ρ 1= .fn 512 [.gp B0.length 0]->ρ 10= .sl false 4 (Qb t.kids)->ρ 11= .int .i64 t.kids.length->ρ 12= .int .i64 pre.length->
  SOk B0 (acc ++ ZA post) (R tb (.loop f168l0) ρ bs (Qo 0 (QN f168 B))):=by
 have hmk:=QK t;intro post
 induction post with
 | nil=>
  intro pre acc bs ρ hk hw ha h1 h10 h11 h12;simp only[QH]at hk;rw[<- hk]at h12;rw[Qe f168l0.eq_1];refine⟨bs,?_,by simpa[ZA]using hw⟩;simp[h1,h10,h11,h12]
 | cons x post IH=>
  intro pre acc bs ρ hk hw ha h1 h10 h11 h12;have hg:=Qw hk;have hl:=QE hk;have hw1:=wr1 pre.length (by omega);have hlt:=QI hk;simp only[Qx]at ha;obtain⟨bs',hc,hw'⟩:=ih x (by rw[hk];simp) acc bs hw (by omega);have hfl: (ZB x).length<=x.nodes:=by rw[UH];exact Zm _
  have h2:=fun ρ=>IH (pre ++ [x]) _ bs' ρ (by rw[hk];simp) hw' (by rw[Zk];omega);rw[ZY,show ZB x ++ ZA post=ZA (x:: post) by simp[ZA]]at h2;rw[Qe f168l0.eq_1];simp[h1,h10,h11,h12,hg,hlt,hw1,hc];refine h2 _ ?_ ?_ ?_ ?_ <;> simp[h1,h10,h11]
def QaW (B0:Qa): ∀(t:Tm) (acc:Qc) (bs:Qa),t.mass < 100000000->Sst B0 acc bs->acc.length+t.nodes < 100000000->
  SOk B0 (acc ++ ZB t) (call tb 168 [.agg (Qf t),.fn 512 [.gp B0.length 0]] bs):=by
 refine Yq ?_;intro kk n s ks ih acc bs hm hw ha;have hmk:=QK (.mk kk n s ks);have hnk:=X5 (.mk kk n s ks);simp only[Zz,Ya]at hmk hnk;obtain⟨bs1,hc,hw1⟩:=Bi B0 acc bs (.mk kk n s ks) hw (by omega);have hl:=fun ρ=>Qb1 B0 (.mk kk n s ks) bs hm (fun x hx acc bs hw ha=>ih x hx acc bs (by have:=Q3 hx;simp at this;omega) hw ha) ks [] _ bs1 ρ rfl hw1 (by
  rw[Zk];simp;omega)
 have he:acc ++ ZB (.mk kk n s ks)=(acc ++ [.mk kk n s ks])++ ZA ks:=by simp[ZB]
 rw[he,zcc 168 rfl rfl];simp[f168C,hc];simp only[Zz,ZY,WC,XP]at hl;refine hl _ ?_ ?_ ?_ ?_ <;> simp[Zt]
def Qld (L:Qc) (B0 B:Qa) (hL:L.length < 1000000) (hm: ∀x∈L,x.mass < 1000000) (X:Out) (K:Kn) (c:AC):
  ∀(post pre acc:Qc) (bs:Qa) (o:Bool) (ρ:Ql),L=pre ++ post->Sst B0 acc bs->acc.length+Qx post < 100000000->ρ 3= .gp B0.length 0->ρ 6= .sl o 4 (Qb L)->ρ 7= .int .i64 L.length->ρ 8= .int .i64 pre.length->
   (∀(ρ':Ql) (bs':Qa),Sst B0 (acc ++ ZA post) bs'->ρ' 3= .gp B0.length 0->R tb c ρ' bs' K=X)->
  R tb (.loop f511l0) ρ bs (Qo 0 (QB tb c K))=X:=by
 intro post
 induction post with
 | nil=>
  intro pre acc bs o ρ hk hw ha h3 h6 h7 h8 h;simp only[QH]at hk;rw[<- hk]at h8;rw[Qe f511l0.eq_1];simp[h6,h7,h8];refine h _ bs (by simpa[ZA]using hw) ?_;simp[h3]
 | cons x post IH=>
  intro pre acc bs o ρ hk hw ha h3 h6 h7 h8 h;have hg:=Qw hk;have hl:=QE hk;have hw1:=wr1 pre.length (by omega);have hlt:=QI hk;simp only[Qx]at ha;obtain⟨bs',hc,hw'⟩:=QaW B0 x acc bs (by have:=hm x (by rw[hk];simp);omega) hw (by omega);have hfl: (ZB x).length=x.nodes:=UH x;have ih:=fun ρ a3 a6 a7 a8=>IH (pre ++ [x]) (acc ++ ZB x) bs' o ρ (by rw[hk];simp) hw' (by rw[Zk];omega) a3 a6 a7 a8 fun ρ' bs2 t1 t2=>h ρ' bs2 (by simpa[ZA]using t1) t2;rw[Qe f511l0.eq_1];simp[h3,h6,h7,h8,hg,hlt,hw1,hc];apply ih <;> simp[h3,h6,h7]
def Qjs (L:Qc) (o:Bool) (B0:Qa) (hL:L.length < 1000000) (hm: ∀x∈L,x.mass < 1000000) (hn:Qx L < 100000000):
  call tb 511 [.sl o 4 (Qb L)] B0=some (.sl true 4 (Qb (Yv (ZA L))),B0):=by
 have hw0:Sst B0 [] (B0 ++ [[.gs 0 0 0 0]]):=⟨by simp,by simp,.inl ⟨rfl,Ye⟩⟩;have h:=fun ρ=>Qld L B0 B0 hL hm (some (.sl true 4 (Qb (Yv (ZA L))),B0)) (QN f511 B0) f511r0 L [] [] _ false ρ rfl hw0 (by simpa using hn);rw[zcc 511 rfl rfl];simp[f511C];refine h _ ?_ ?_ ?_ ?_ ?_
 ·simp
 ·simp
 ·simp
 ·simp
 ·intro ρ' bs' hs h3;obtain⟨h1,h2,h4⟩:=hs;rw[XP]at h4;have hall: ∀x∈ZA L,x.mass < big:=fun x hx=>by
   have: ∀(l:Qc),(∀y∈l,y.mass < 1000000)->∀x∈ZA l,x.mass < 1000000:=by
    intro l
    induction l with
    | nil=>intro _ x hx;simp[ZA]at hx
    | cons y r ih=>
     intro hy x hx;simp only[ZA,Xe]at hx;rcases hx with hx | hx
     ·have:=UB y x hx;have:=hy y (by simp);omega
     ·exact ih (fun z hz=>hy z (by simp[hz])) x hx
   have:=this L hm x hx;unfold big;omega
  have hlen: (ZA L).length < 100000000:=by
   have: (ZA L).length=Qx L:=by
    have: ∀l:Qc,(ZA l).length=Qx l:=by
     intro l
     induction l with
     | nil=>simp[ZA,Qx]
     | cons y r ih=>simp only[ZA,Qx,Zk,UH,ih]
    exact this L
   omega
  generalize ZA L=A at *;have hgp:ZV (Qb (Yv A))=true:=Xh _;rcases h4 with⟨h5,h6⟩ | ⟨h5,g,h6,h7,h8⟩
  ·have ho:=MB bs';subst h5;simp[f511r0,h3,h6,ho,h2,Yv,YG,Qb]
  ·have ho:=Lq A bs' g h8 h5 hlen hall;have ht: (bs'.set g []).take B0.length=B0:=by rw[JD (by omega)];exact h2
   simp[f511r0,h3,h7,ho,ht,hgp]
structure Ded where
 r:Int
 n:Int
 a:List Int
 c:List Int
 t:Tm
def ZF (l:QO):Qa:=l.map fun i=>[AV.int .i64 i]
@[simp] def Qsc (l:QO): (ZF l).length=l.length:=by simp[ZF]
@[simp] def Xo (l:QO) (i:Nat): (ZF l)[i]? =(l[i]?).map fun i=>[AV.int .i64 i]:=by simp[ZF]
@[simp] def Ny: ∀l:QO,ZV (ZF l)=true
 | []=>rfl
 | i:: l=>by
  have:=Ny l;simp only[ZF]at this ⊢;simp[ZV,QY,AV.gpfree,this]
def Za (d:Ded):Qh:=[.int .i64 d.r,.int .i64 d.n,.sl false 1 (ZF d.a),.sl false 1 (ZF d.c)]++ Qf d.t
def X4 (d:Ded):Za d=[.int .i64 d.r,.int .i64 d.n,.sl false 1 (ZF d.a),.sl false 1 (ZF d.c),.int .i64 d.t.kind,.str d.t.name,.int .i64 d.t.sort,.sl false 4 (Qb d.t.kids)]:=by
 simp[Za,Zt]
@[simp] def HQ (d:Ded): (Za d).length=8:=by simp[X4]
@[simp] def QpW (d:Ded): (Za d).map AV.strip=Za d:=by simp[X4]
@[simp] def QpX (d:Ded): (Za d).take 8=Za d:=YH (by simp)
@[simp] def RC (d:Ded): (Za d).drop 4=Qf d.t:=by simp[Za]
@[simp] def QpV (d:Ded): (Za d).drop 8=[]:=by simp[X4]
@[simp] def QjT (d:Ded): (Za d)[0]? =some (.int .i64 d.r):=by simp[X4]
@[simp] def QjU (d:Ded): (Za d)[1]? =some (.int .i64 d.n):=by simp[X4]
@[simp] def Pt (d:Ded): (Za d)[2]? =some (.sl false 1 (ZF d.a)):=by simp[X4]
@[simp] def QjV (d:Ded): (Za d)[3]? =some (.sl false 1 (ZF d.c)):=by simp[X4]
@[simp] def Qr7 (d:Ded) (h:0 < (Za d).length): (Za d)[0]= .int .i64 d.r:=by simp[X4]
@[simp] def Qr8 (d:Ded) (h:1 < (Za d).length): (Za d)[1]= .int .i64 d.n:=by simp[X4]
@[simp] def Qr9 (d:Ded) (h:2 < (Za d).length): (Za d)[2]= .sl false 1 (ZF d.a):=by simp[X4]
@[simp] def Qsa (d:Ded) (h:3 < (Za d).length): (Za d)[3]= .sl false 1 (ZF d.c):=by simp[X4]
@[simp] def Qsb (d:Ded):QY (Za d)=true:=by simp[Za,QY,AV.gpfree,Nz]
abbrev QL:=List Ded
def QD (l:QL):Qa:=l.map Za
@[simp] def SR (l:QL): (QD l).length=l.length:=by simp[QD]
@[simp] def Zr (l:QL) (i:Nat): (QD l)[i]? =(l[i]?).map Za:=by simp[QD]
@[simp] def RY: ∀l:QL,ZV (QD l)=true
 | []=>rfl
 | p:: l=>by
  have:=RY l;simp only[QD]at this ⊢;simp[ZV,this]
def Sj (x y:Tm) (bs:Qa) (hx:x.mass < big) (hy:y.mass < big):call tb 350 [.agg (Qf x),.agg (Qf y)] bs=some (.bool (decide (Qq x y=0)),bs):=by
 have h:=call_Compare x y bs hx hy;rw[zcc 350 rfl rfl];simp[f350C,h]
abbrev isN (t:Tm) (n:List UInt8):Bool:=isB t n
def Af (t:Tm) (n:Qu) (bs:Qa):call tb 360 [.agg (Qf t),.str n] bs=some (.bool (isN t n),bs):=by
 rw[zcc 360 rfl rfl,Zt];unfold isN isB;by_cases c:t.kind=3
 ·simp[f360C,c]
 ·simp[f360C,c]
def WW (t:Tm) (n:Qu) (i:Nat) (u:Tm):Bool:=isN t n && (match t.kids[i]? with | some k=>decide (Qq k u=0) | none=>false)
def Ps (t:Tm) (n:Qu) (i:Nat) (u:Tm) (bs:Qa) (hi:isN t n=true->i < t.kids.length) (hm:t.mass < big) (hu:u.mass < big) (hi2:i < 10):
  call tb 359 [.agg (Qf t),.str n,.int .i64 i,.agg (Qf u)] bs=some (.bool (WW t n i u),bs):=by
 have h1:=Af t n bs;rw[zcc 359 rfl rfl];unfold WW;cases c:isN t n
 ·rw[c]at h1;simp[f359C,h1]
 ·rw[c]at h1;have hil:=hi c;have hk:t.kids[i]? =some t.kids[i]:=Zq hil;have hkm:t.kids[i].mass < big:=Mi hm (SI _);have h2:=Sj t.kids[i] u bs hkm hu;have e1:=Zt t;rw[hk];generalize t.kids[i]=k at *;simp only[e1]at h1 ⊢;simp[-getElem?_pos,Zb,Ze,Zv,f359C,h1,h2,e1,hk]
def IG:List (Qu×Int):=[([],0),([103,105,118,101,110],0),([112,117,98,108,105,99],0),([112,97,105,114],2),([102,105,114,115,116],1),([115,101,99,111,110,100],1),([101,110,99],2),([100,101,99],2),([97,101,110,99],2),([97,100,101,99],2),([112,107],1),([115,105,103,110],2),([114,101,97,100],1),([104,97,115,104],1),([115,117,109],-1),([112,111,119,101,114],-2),([112,114,111,100,117,99,116],-1)]
def rOk (r:Int):Bool:=decide (1<=r) && decide (r<=16)
def X0 (r:Int):Qu:=if rOk r then(IG[r.toNat]?.getD ([],0)).1 else []
def Xv (r:Int):Int:=if rOk r then(IG[r.toNat]?.getD ([],0)).2 else 0
def R4 {r:Int} (h:rOk r=true):r=1\/r=2\/r=3\/r=4\/r=5\/r=6\/r=7\/r=8\/r=9\/r=10\/r=11\/r=12\/r=13\/r=14\/r=15\/r=16:=by
 simp[rOk]at h;omega
def Ae (r:Int) (bs:Qa):call tb 353 [.int .i64 r] bs=some (.tup [.agg [.str (X0 r),.int .i64 (Xv r)],.bool (rOk r)],bs):=by
 cases h:rOk r
 ·rw[zcc 353 rfl rfl];have h2:r < 1\/17<=r:=by
   simp[rOk]at h;omega
  have ew:X0 r=[]:=by simp[X0,h]
  have ea:Xv r=0:=by simp[Xv,h]
  rw[ew,ea];by_cases c:r < 1
  ·simp[f353C,c]
  ·have c2: (17:Int)<=r:=by omega
   simp[f353C,c,c2]
 ·rcases R4 h with rfl | rfl | rfl | rfl | rfl | rfl | rfl | rfl | rfl | rfl | rfl | rfl | rfl | rfl | rfl | rfl <;>
   (rw[zcc 353 rfl rfl];simp[f353C,X0,Xv,rOk,IG])
def Qjn (r:Int) (bs:Qa):call tb 386 [.int .i64 r] bs=some (.tup [.str (X0 r),.int .i64 (Xv r)],bs):=by
 cases h:rOk r
 ·rw[zcc 386 rfl rfl];have h2:r < 1\/17<=r:=by
   simp[rOk]at h;omega
  have ew:X0 r=[]:=by simp[X0,h]
  have ea:Xv r=0:=by simp[Xv,h]
  rw[ew,ea];by_cases c:r < 1
  ·simp[f386C,c]
  ·have c2: (16:Int) < r:=by omega
   simp[f386C,c,c2]
 ·rcases R4 h with rfl | rfl | rfl | rfl | rfl | rfl | rfl | rfl | rfl | rfl | rfl | rfl | rfl | rfl | rfl | rfl <;>
   (rw[zcc 386 rfl rfl];simp[f386C,X0,Xv,rOk,IG,show IntKind.i64.wrap 0=0 from rfl,show IntKind.i64.wrap 1=1 from rfl,show IntKind.i64.wrap 2=2 from rfl,show IntKind.i64.wrap 3=3 from rfl,show IntKind.i64.wrap 4=4 from rfl,show IntKind.i64.wrap 5=5 from rfl,show IntKind.i64.wrap 6=6 from rfl,show IntKind.i64.wrap 7=7 from rfl,show IntKind.i64.wrap 8=8 from rfl,show IntKind.i64.wrap 9=9 from rfl,show IntKind.i64.wrap 10=10 from rfl,show IntKind.i64.wrap 11=11 from rfl,show IntKind.i64.wrap 12=12 from rfl,show IntKind.i64.wrap 13=13 from rfl,show IntKind.i64.wrap 14=14 from rfl,show IntKind.i64.wrap 15=15 from rfl])
def SQ (d:Ded):Int:=if d.r=15 then(d.a.length:Int) - 1 else if d.r=16 then d.a.length else 0
def Qi8 (d:Ded) (bs:Qa) (hl:d.a.length < 1000000):call tb 354 [.agg (Za d)] bs=some (.int .i64 (SQ d),bs):=by
 have hw:IntKind.i64.wrap ((d.a.length:Int) - 1)=(d.a.length:Int) - 1:=Zf (by omega) (by omega);rw[zcc 354 rfl rfl];unfold SQ;by_cases c:d.r=15
 ·simp[f354C,c,hw]
 ·by_cases c2:d.r=16
  ·simp[f354C,c2]
  ·simp[f354C,c,c2]
def Qjo (d:Ded) (bs:Qa) (hl:d.a.length < 1000000):call tb 387 [.agg (Za d)] bs=some (.int .i64 (SQ d),bs):=by
 have hw:IntKind.i64.wrap ((d.a.length:Int) - 1)=(d.a.length:Int) - 1:=Zf (by omega) (by omega);rw[zcc 387 rfl rfl];unfold SQ;by_cases c:d.r=15
 ·simp[f387C,c,hw]
 ·by_cases c2:d.r=16
  ·simp[f387C,c2]
  ·simp[f387C,c,c2]
def QgY (f:Nat) (cs:Qh) (p:Int->Bool) (l:QO) (bs:Qa) (hc: ∀x∈l,call tb f (.int .i64 x:: cs) bs=some (.bool (p x),bs)) (hl:l.length < 1000000) (hok: ∀x∈cs,x.ok=true):
  ∀(post pre:QO) (o:Bool) (ρ:Ql),l=pre ++ post->pre.any p=false->ρ 0= .sl o 1 (ZF l)->ρ 1= .fn f cs->ρ 7= .int .i64 l.length->ρ 8= .int .i64 pre.length->
  R8 (l.any p) bs (R tb (.loop f357l0) ρ bs (Qo 0 (QB tb f357r0 (QN f357 bs)))):=by
 intro post
 induction post with
 | nil=>
  intro pre o ρ hk hp h0 h1 h7 h8;simp only[QH]at hk;rw[<- hk]at h8 hp;rw[Qe f357l0.eq_1];refine⟨-1,?_,by rw[hp];simp⟩;simp[h0,h1,h7,h8,f357r0]
 | cons x post IH=>
  intro pre o ρ hk hp h0 h1 h7 h8;have hgt:=Qw hk;have hll:=QE hk;have hw1:=wr1 pre.length (by omega);have hlt:=QI hk;have hcall:=hc x (by rw[hk];simp);have ih:=fun ρ hpp=>IH (pre ++ [x]) o ρ (by rw[hk];simp) hpp;rw[Qe f357l0.eq_1];cases ho:p x
  ·rw[ho]at hcall;have ih2:=fun ρ=>ih ρ (by rw[SJ,hp];simp[ho]);simp[h0,h1,h7,h8,hlt,hgt,hw1,hcall,eq_true hok,-List.any_eq_false,-List.any_eq_true];apply ih2 <;> simp[h0,h1,h7]
  ·rw[ho]at hcall;have hany:l.any p=true:=UX.2 ⟨x,by rw[hk];simp,ho⟩;refine⟨pre.length,?_,by rw[hany];simp⟩;simp[h0,h1,h7,h8,hlt,hgt,hcall,eq_true hok]
def Kc (f:Nat) (cs:Qh) (p:Int->Bool) (l:QO) (o:Bool) (bs:Qa) (hc: ∀x∈l,call tb f (.int .i64 x:: cs) bs=some (.bool (p x),bs)) (hl:l.length < 1000000) (hok: ∀x∈cs,x.ok=true):
  call tb 356 [.sl o 1 (ZF l),.fn f cs] bs=some (.bool (l.any p),bs):=by
 have h1:=fun ρ=>QgY f cs p l bs hc hl hok l [] false ρ rfl rfl;have h2:R8 (l.any p) bs (call tb 357 [.sl false 1 (ZF l),.fn f cs] bs):=by
  rw[zcc 357 rfl rfl];simp[f357C,eq_true hok,-List.any_eq_false,-List.any_eq_true];apply h1 <;> simp
 obtain⟨i,hi,hb⟩:=h2;rw[zcc 356 rfl rfl];simp[f356C,eq_true hok,hi,-List.any_eq_false,-List.any_eq_true];cases hx:l.any p
 ·rw[hx]at hb;simp at hb;simpa using hb
 ·rw[hx]at hb;simp at hb;simpa using hb
def Yu (c:Int):Bool:=decide (c < -35184372088832) || decide (35184372088832 < c)
def Qja (c:Int) (bs:Qa):call tb 358 [.int .i64 c] bs=some (.bool (Yu c),bs):=by
 rw[zcc 358 rfl rfl];unfold Yu;by_cases h:c < -35184372088832
 ·simp[f358C,h]
 ·simp[f358C,h]
def Qjf (c:Int) (bs:Qa):call tb 368 [.int .i64 c] bs=some (.bool (Yu c),bs):=by
 rw[zcc 368 rfl rfl];unfold Yu;by_cases h:c < -35184372088832
 ·simp[f368C,h]
 ·simp[f368C,h]
def Xj (i a:Int):Bool:=decide (a < 0) || decide (i<=a)
def Qi9 (a i:Int) (g:Nat) (bs:Qa) (hg:bs[g]? =some [.int .i64 i]):call tb 355 [.int .i64 a,.gp g 0] bs=some (.bool (Xj i a),bs):=by
 rw[zcc 355 rfl rfl];unfold Xj;by_cases h:a < 0
 ·simp[-getElem?_pos,Zb,Ze,f355C,h,hg]
 ·simp[-getElem?_pos,Zb,Ze,f355C,h,hg]
set_option maxHeartbeats 1000000
def f6B (d:Ded):Bool:=(decide (0<=Xv d.r) && !decide ((d.a.length:Int)=Xv d.r)) || (decide (Xv d.r= -2) && decide (d.a.length=0)) || !decide ((d.c.length:Int)=SQ d)
def fNB (d:Ded):Bool:=decide (d.n < 0) || decide (1000000 < d.n) || (!decide (d.n=0) && !decide (d.r=1))
def TE (d:Ded) (i:Int):Int:=if rOk d.r=false then 1 else if f6B d then 6 else if d.a.any (Xj i)then 7 else if fNB d then 7 else if d.c.any Yu then 7 else 0
def Qi7 (d:Ded) (i:Int) (bs:Qa) (ha:d.a.length < 1000000) (hc:d.c.length < 1000000):call tb 352 [.agg (Za d),.int .i64 i] bs=some (.int .i64 (TE d i),bs):=by
 have c353:=fun b=>Ae d.r b;have c354:=fun b=>Qi8 d b ha;have hg: (bs ++ [[AV.int .i64 i]])[bs.length]? =some [.int .i64 i]:=Ye;have c356:=Kc 355 [.gp bs.length 0] (Xj i) d.a false (bs ++ [[.int .i64 i]]) (fun a _=>Qi9 a i bs.length _ hg) ha (by simp[AV.ok]);have c356b:=Kc 358 [] Yu d.c false (bs ++ [[.int .i64 i]]) (fun c _=>Qja c _) hc (by simp);rw[zcc 352 rfl rfl];unfold TE f6B fNB;cases h1:rOk d.r
 ·rw[h1]at c353;simp[f352C,c353]
 ·rw[h1]at c353;generalize hA:d.a.any (Xj i)=A at *;generalize hC:d.c.any Yu=C at *;have lz: (d.a.length:Int)=0↔d.a.length=0:=by omega
  by_cases c1:0<=Xv d.r
  ·have c3: ¬Xv d.r= -2:=by omega
   by_cases c2: (d.a.length:Int)=Xv d.r
   ·by_cases c5: (d.c.length:Int)=SQ d
    ·cases A
     ·by_cases n1:d.n < 0
      ·simp[f352C,c353,c354,c356,c356b,c1,c2,c3,c5,n1]
      ·by_cases n2:1000000 < d.n
       ·simp[f352C,c353,c354,c356,c356b,c1,c2,c3,c5,n1,n2]
       ·by_cases n3:d.n=0
        ·cases C <;> simp[f352C,c353,c354,c356,c356b,c1,c2,c3,c5,n3]
        ·by_cases n4:d.r=1
         ·simp only[n4]at c353 c1 c2 c3 c5 ⊢;cases C <;> simp[f352C,c353,c354,c356,c356b,c1,c2,c3,c5,n1,n2,n3,n4]
         ·simp[f352C,c353,c354,c356,c356b,c1,c2,c3,c5,n1,n2,n3,n4]
     ·simp[f352C,c353,c354,c356,c356b,c1,c2,c3,c5]
    ·simp[f352C,c353,c354,c356,c356b,c1,c2,c3,c5]
   ·simp[f352C,c353,c354,c356,c356b,c1,c2,c3]
  ·by_cases c4:Xv d.r= -2/\d.a.length=0
   ·obtain⟨c3,c4⟩:=c4;simp[f352C,c353,c354,c356,c356b,c1,c3,c4,lz]
   ·by_cases c5: (d.c.length:Int)=SQ d
    ·cases A
     ·by_cases c3:Xv d.r= -2
      ·have c4': ¬d.a.length=0:=fun e=>c4 ⟨c3,e⟩;by_cases n1:d.n < 0
       ·simp[f352C,c353,c354,c356,c356b,c1,c3,c4',lz,c5,n1]
       ·by_cases n2:1000000 < d.n
        ·simp[f352C,c353,c354,c356,c356b,c1,c3,c4',lz,c5,n1,n2]
        ·by_cases n3:d.n=0
         ·cases C <;> simp[f352C,c353,c354,c356,c356b,c1,c3,c4',lz,c5,n3]
         ·by_cases n4:d.r=1
          ·simp only[n4]at c353 c1 c3 c5 ⊢;cases C <;> simp[f352C,c353,c354,c356,c356b,c1,c3,c4',lz,c5,n1,n2,n3,n4]
          ·simp[f352C,c353,c354,c356,c356b,c1,c3,c4',lz,c5,n1,n2,n3,n4]
      ·by_cases n1:d.n < 0
       ·simp[f352C,c353,c354,c356,c356b,c1,c3,c5,n1]
       ·by_cases n2:1000000 < d.n
        ·simp[f352C,c353,c354,c356,c356b,c1,c3,c5,n1,n2]
        ·by_cases n3:d.n=0
         ·cases C <;> simp[f352C,c353,c354,c356,c356b,c1,c3,c5,n3]
         ·by_cases n4:d.r=1
          ·simp only[n4]at c353 c1 c3 c5 ⊢;cases C <;> simp[f352C,c353,c354,c356,c356b,c1,c3,c5,n1,n2,n3,n4]
          ·simp[f352C,c353,c354,c356,c356b,c1,c3,c5,n1,n2,n3,n4]
     ·by_cases c3:Xv d.r= -2
      ·have c4': ¬d.a.length=0:=fun e=>c4 ⟨c3,e⟩;simp[f352C,c353,c354,c356,c356b,c1,c3,c4',lz,c5]
      ·simp[f352C,c353,c354,c356,c356b,c1,c3,c5]
    ·by_cases c3:Xv d.r= -2
     ·have c4': ¬d.a.length=0:=fun e=>c4 ⟨c3,e⟩;simp[f352C,c353,c354,c356,c356b,c1,c3,c4',lz,c5]
     ·simp[f352C,c353,c354,c356,c356b,c1,c3,c5]
def QqX (d:Ded) (bs:Qa) (hc:d.c.length < 1000000):
  ∀(post pre:QO) (ρ:Ql),d.c=pre ++ post->ρ 2= .bx (Za d)->ρ 8= .int .i64 pre.length->
  R tb (.loop f385l1) ρ bs (Qo 2 (QB tb f385r0 (QN f385 bs)))=some (.int .i64 (if post.any Yu then 7 else 0),bs):=by
 intro post
 induction post with
 | nil=>
  intro pre ρ hk h2 h8;simp only[QH]at hk;rw[<- hk]at h8;rw[Qe f385l1.eq_1];simp[h2,h8,f385r0]
 | cons x post IH=>
  intro pre ρ hk h2 h8;have hgt:=Qw hk;have hll:=QE hk;have hw1:=wr1 pre.length (by omega);have hlt:=QI hk;have ih:=fun ρ=>IH (pre ++ [x]) ρ (by rw[hk];simp);rw[Qe f385l1.eq_1];by_cases c1:x < -35184372088832
  ·have e: (x:: post).any Yu=true:=by simp[Yu,c1]
   rw[e];simp[h2,h8,hlt,hgt,c1]
  ·by_cases c2:35184372088832 < x
   ·have e: (x:: post).any Yu=true:=by simp[Yu,c2]
    rw[e];simp[h2,h8,hlt,hgt,c1,c2]
   ·have e: (x:: post).any Yu=post.any Yu:=by simp[Yu,c1,c2]
    rw[e];generalize post.any Yu=X at *;simp[h2,h8,hlt,hgt,c1,c2,hw1];apply ih <;> simp[h2]
def QqY (d:Ded) (bs:Qa) (hc:d.c.length < 1000000) (ρ:Ql) (h2:ρ 2= .bx (Za d)):
  R tb f385r1 ρ bs (QN f385 bs)=some (.int .i64 (if fNB d then 7 else if d.c.any Yu then 7 else 0),bs):=by
 have h:=fun ρ=>QqX d bs hc d.c [] ρ rfl;unfold fNB;generalize d.c.any Yu=X at *;by_cases n1:d.n < 0
 ·simp[f385r1,h2,n1]
 ·by_cases n2:1000000 < d.n
  ·simp[f385r1,h2,n1,n2]
  ·by_cases n3:d.n=0
   ·simp[f385r1,h2,n3];apply h <;> simp[h2]
   ·by_cases n4:d.r=1
    ·simp[f385r1,h2,n1,n2,n3,n4];apply h <;> simp[h2]
    ·simp[f385r1,h2,n1,n2,n3,n4]
def QqW (d:Ded) (i:Int) (bs:Qa) (ha:d.a.length < 1000000) (hc:d.c.length < 1000000):
  ∀(post pre:QO) (ρ:Ql),d.a=pre ++ post->ρ 1= .int .i64 i->ρ 2= .bx (Za d)->ρ 7= .int .i64 pre.length->
  R tb (.loop f385l0) ρ bs (Qo 0 (QB tb f385r1 (QN f385 bs)))=some (.int .i64 (if post.any (Xj i)then 7 else if fNB d then 7 else if d.c.any Yu then 7 else 0),bs):=by
 intro post
 induction post with
 | nil=>
  intro pre ρ hk h1 h2 h7;simp only[QH]at hk;rw[<- hk]at h7;have h:=fun ρ h2=>QqY d bs hc ρ h2;rw[Qe f385l0.eq_1];simp[h1,h2,h7];rw[h] <;> simp[h2]
 | cons x post IH=>
  intro pre ρ hk h1 h2 h7;have hgt:=Qw hk;have hll:=QE hk;have hw1:=wr1 pre.length (by omega);have hlt:=QI hk;have ih:=fun ρ=>IH (pre ++ [x]) ρ (by rw[hk];simp);rw[Qe f385l0.eq_1];by_cases c1:x < 0
  ·have e: (x:: post).any (Xj i)=true:=by simp[Xj,c1]
   rw[e];simp[h1,h2,h7,hlt,hgt,c1]
  ·by_cases c2:i<=x
   ·have e: (x:: post).any (Xj i)=true:=by simp[Xj,c2]
    rw[e];simp[h1,h2,h7,hlt,hgt,c1,c2]
   ·have e: (x:: post).any (Xj i)=post.any (Xj i):=by simp[Xj,c1,c2]
    rw[e];generalize post.any (Xj i)=X at *;generalize d.c.any Yu=Y at *;simp[h1,h2,h7,hlt,hgt,c1,c2,hw1];apply ih <;> simp[h1,h2]
def Gk (r:Int):X0 r=[]↔rOk r=false:=by
 cases h:rOk r
 ·simp[X0,h]
 ·rcases R4 h with rfl | rfl | rfl | rfl | rfl | rfl | rfl | rfl | rfl | rfl | rfl | rfl | rfl | rfl | rfl | rfl <;> simp[X0,rOk,IG]
def Qjm (d:Ded) (i:Int) (bs:Qa) (ha:d.a.length < 1000000) (hc:d.c.length < 1000000):call tb 385 [.agg (Za d),.int .i64 i] bs=some (.int .i64 (TE d i),bs):=by
 have c386:=Qjn d.r bs;have c387:=Qjo d bs ha;have h:=fun ρ=>QqW d i bs ha hc d.a [] ρ rfl;rw[zcc 385 rfl rfl];unfold TE f6B;cases h1:rOk d.r
 ·have ew:=(Gk d.r).2 h1;rw[ew]at c386;simp[f385C,c386]
 ·have ew: ¬X0 d.r=[]:=fun e=>by rw[(Gk d.r).1 e]at h1;cases h1
  have ewe: (X0 d.r).isEmpty=false:=by
   cases h:X0 d.r with
   | nil=>exact absurd h ew
   | cons a b=>rfl
  generalize X0 d.r=w at *;generalize d.a.any (Xj i)=A at *;generalize d.c.any Yu=C at *;have lz: (d.a.length:Int)=0↔d.a.length=0:=by omega
  by_cases c1:0<=Xv d.r
  ·have c3: ¬Xv d.r= -2:=by omega
   by_cases c2: (d.a.length:Int)=Xv d.r
   ·by_cases c5: (d.c.length:Int)=SQ d
    ·simp[f385C,c386,c387,ewe,c1,c2,c3,c5];apply h <;> simp
    ·simp[f385C,c386,c387,ewe,c1,c2,c3,c5]
   ·simp[f385C,c386,c387,ewe,c1,c2,c3]
  ·by_cases c3:Xv d.r= -2
   ·by_cases c4:d.a.length=0
    ·simp[f385C,c386,c387,ewe,c1,c3,c4,lz]
    ·by_cases c5: (d.c.length:Int)=SQ d
     ·simp[f385C,c386,c387,ewe,c1,c3,c4,lz,c5];apply h <;> simp
     ·simp[f385C,c386,c387,ewe,c1,c3,c4,lz,c5]
   ·by_cases c5: (d.c.length:Int)=SQ d
    ·simp[f385C,c386,c387,ewe,c1,c3,c5];apply h <;> simp
    ·simp[f385C,c386,c387,ewe,c1,c3,c5]
def Kd (t:Tm) (n:Qu) (ks:Qc) (o:Bool) (bs:Qa) (ht:t.mass < big) (hk: (Tm.mk 3 n 0 ks).mass < big) (hl:ks.length < 1000000):
  call tb 389 [.agg (Qf t),.str n,.sl o 4 (Qb ks)] bs=some (.bool (decide (Qq t (.mk 3 n 0 ks)=0)),bs):=by
 have h1:=fun o=>U1 n ks o bs (by omega);have h2:=Xs t (.mk 3 n 0 ks) bs ht hk;rw[zcc 389 rfl rfl];simp[f389C,h1,h2]
def I7 (t:Tm) (n:Qu) (i:Nat) (u:Tm) (bs:Qa) (hm:t.mass < big) (hu:u.mass < big) (hi:i < 10):
  call tb 337 [.agg (Qf t),.str n,.int .i64 i,.agg (Qf u)] bs=some (.bool (WW t n i u),bs):=by
 have h1:=P7 t n bs;have e1:=Zt t;rw[zcc 337 rfl rfl];unfold WW;cases c:isN t n
 ·have c':isB t n=_:=c;rw[c']at h1;simp only[e1]at h1 ⊢;simp[f337C,h1]
 ·have c':isB t n=_:=c;rw[c']at h1;simp only[e1]at h1 ⊢;by_cases hil:i < t.kids.length
  ·have hil': (i:Int) < (t.kids.length:Int):=by omega
   have hk:t.kids[i]? =some t.kids[i]:=Zq hil;have hkm:t.kids[i].mass < big:=Mi hm (SI _);have h2:=Xs t.kids[i] u bs hkm hu;rw[hk];generalize t.kids[i]=k at *;simp[-getElem?_pos,Zb,Ze,Zv,f337C,h1,h2,e1,hk,hil']
  ·have hil': ¬(i:Int) < (t.kids.length:Int):=by omega
   have hk:t.kids[i]? =none:=Q2 (by omega);rw[hk];simp[-getElem?_pos,Zb,Ze,Zv,f337C,h1,e1,hil']
def ZK (l:List Qj):Qa:=l.map fun g=>[AV.sl false 5 (QF g)]
@[simp] def QqN (l:List Qj): (ZK l).length=l.length:=by simp[ZK]
@[simp] def QqM (l:List Qj) (i:Nat): (ZK l)[i]? =(l[i]?).map fun g=>[AV.sl false 5 (QF g)]:=by simp[ZK]
@[simp] def Qd8: ∀l:List Qj,ZV (ZK l)=true
 | []=>rfl
 | p:: l=>by
  have:=Qd8 l;simp only[ZK]at this ⊢;simp[ZV,QY,AV.gpfree,this]
def J8 (a b:List Qj):ZK a ++ ZK b=ZK (a ++ b):=by simp[ZK]
def Ph (g:Qj): [[AV.sl false 5 (QF g)]]=ZK [g]:=rfl
def VD (g:Qj):Bool:=decide (Z7 g≠0)
def SmP (g:Qj):Prop:=g.length < 1000000/\∀q∈g,q.1.mass < 1000000
def SmP.big {g:Qj} (h:SmP g): ∀q∈g,q.1.mass < big:=fun q hq=>by have:=h.2 q hq;unfold Go.Am.big;omega
def Qjg (g:Qj) (o:Bool) (bs:Qa) (h:SmP g):call tb 369 [.sl o 5 (QF g)] bs=some (.bool (VD g),bs):=by
 have h1:=fun o=>Nv g o bs (by have:=h.1;omega) h.big;rw[zcc 369 rfl rfl];simp[f369C,h1,VD]
def QgZ (l:List Qj) (bs:Qa) (hc: ∀g∈l,SmP g) (hl:l.length < 1000000):
  ∀(post pre:List Qj) (o:Bool) (ρ:Ql),l=pre ++ post->pre.any VD=false->ρ 0= .sl o 1 (ZK l)->ρ 1= .fn 369 []->ρ 7= .int .i64 l.length->ρ 8= .int .i64 pre.length->
  R8 (l.any VD) bs (R tb (.loop f371l0) ρ bs (Qo 0 (QB tb f371r0 (QN f371 bs)))):=by
 intro post
 induction post with
 | nil=>
  intro pre o ρ hk hp h0 h1 h7 h8;simp only[QH]at hk;rw[<- hk]at h8 hp;rw[Qe f371l0.eq_1];refine⟨-1,?_,by rw[hp];simp⟩;simp[h0,h1,h7,h8,f371r0]
 | cons x post IH=>
  intro pre o ρ hk hp h0 h1 h7 h8;have hgt:=Qw hk;have hll:=QE hk;have hw1:=wr1 pre.length (by omega);have hlt:=QI hk;have hcall:=Qjg x false bs (hc x (by rw[hk];simp));have ih:=fun ρ hpp=>IH (pre ++ [x]) o ρ (by rw[hk];simp) hpp;rw[Qe f371l0.eq_1];cases ho:VD x
  ·rw[ho]at hcall;have ih2:=fun ρ=>ih ρ (by rw[SJ,hp];simp[ho]);simp[h0,h1,h7,h8,hlt,hgt,hw1,hcall,-List.any_eq_false,-List.any_eq_true];apply ih2 <;> simp[h0,h1,h7]
  ·rw[ho]at hcall;have hany:l.any VD=true:=UX.2 ⟨x,by rw[hk];simp,ho⟩;refine⟨pre.length,?_,by rw[hany];simp⟩;simp[h0,h1,h7,h8,hlt,hgt,hcall]
def Qjh (l:List Qj) (o:Bool) (bs:Qa) (hc: ∀g∈l,SmP g) (hl:l.length < 1000000):
  call tb 370 [.sl o 1 (ZK l),.fn 369 []] bs=some (.bool (l.any VD),bs):=by
 have h1:=fun ρ=>QgZ l bs hc hl l [] false ρ rfl rfl;have h2:R8 (l.any VD) bs (call tb 371 [.sl false 1 (ZK l),.fn 369 []] bs):=by
  rw[zcc 371 rfl rfl];simp[f371C,-List.any_eq_false,-List.any_eq_true];apply h1 <;> simp
 obtain⟨i,hi,hb⟩:=h2;rw[zcc 370 rfl rfl];simp[f370C,hi,-List.any_eq_false,-List.any_eq_true];cases hx:l.any VD
 ·rw[hx]at hb;simp at hb;simpa using hb
 ·rw[hx]at hb;simp at hb;simpa using hb
def QhO {l:Qc} {t:Tm} {B:Qa} (hl:l.length < 100000000) (hm: ∀p∈l,p.mass < big) (ht:t.mass < big) (ha:Asc l) {n:Nat} (hn:l[n]? =some t):
  ∀(d i j:Nat) (o:Bool) (ρ:Ql),j - i<=d->i<=n->n<=j->j<=l.length->
  ρ 0= .sl o 4 (Qb l)->ρ 4= .bx (Qf t)->ρ 2= .fn 30 []->ρ 8= .int .i64 l.length->ρ 9= .int .i64 i->ρ 10= .int .i64 j->
  R tb (.loop f378l0) ρ B (Qo 0 (QB tb f378r0 (QN f378 B)))=some (.tup [.int .i64 n,.bool true],B):=by
 have hnl:n < l.length:=(WN.1 hn).1;have ord: ∀(i j:Nat) (p q:Tm),l[i]? =some p->l[j]? =some q->i < j->Qq p q < 0:=by
  intro i j p q hp hq hij;obtain⟨h1,rfl⟩:=WN.1 hp;obtain⟨h2,rfl⟩:=WN.1 hq;exact Nb.1 ha i j h1 h2 hij
 have base: ∀(o:Bool) (ρ:Ql),ρ 0= .sl o 4 (Qb l)->ρ 4= .bx (Qf t)->ρ 2= .fn 30 []->ρ 8= .int .i64 l.length->ρ 9= .int .i64 n->ρ 10= .int .i64 n->
   R tb (.loop f378l0) ρ B (Qo 0 (QB tb f378r0 (QN f378 B)))=some (.tup [.int .i64 n,.bool true],B):=by
  intro o ρ h0 h4 h2 h8 h9 h10;have c1: (n:Int) < (l.length:Int):=by omega
  have h3:=call_Compare t t B ht ht;have e0:Qq t t=0:=(Wt).2 rfl;rw[e0]at h3;rw[Qe f378l0.eq_1];simp[-getElem?_pos,f378r0,h0,h2,h4,h8,h9,h10,c1,hn,h3]
 intro d
 induction d with
 | zero=>
  intro i j o ρ hd hin hnj hj h0 h4 h2 h8 h9 h10;have e1:i=n:=by omega
  have e2:j=n:=by omega
  subst e1 e2;exact base o ρ h0 h4 h2 h8 h9 h10
 | succ d IH=>
  intro i j o ρ hd hin hnj hj h0 h4 h2 h8 h9 h10;by_cases hlt:i < j
  ·have hmn: (i+j) / 2 < l.length:=by omega
   have hw:=DZ (i:=i) (j:=j) (by omega);have hp:=Zq hmn;have hmp:=hm _ (SI hmn);have hltI: (i:Int) < (j:Int):=by omega
   have hb1:i<=(i+j) / 2:=by omega
   have hb2: (i+j) / 2 < j:=by omega
   generalize l[(i+j) / 2]=p at *;generalize hmm: (i+j) / 2=m at *;have h3:=call_Compare p t B hmp ht;have hw1:IntKind.i64.wrap ((m:Int)+1)=((m+1:Nat):Int):=by rw[Zf (by omega) (by omega)];omega
   rw[Qe f378l0.eq_1];by_cases cc1:Qq p t < 0
   ·have hmn2:m+1<=n:=by
     rcases JM m n with h | h | h
     ·omega
     ·subst h;rw[hp]at hn;injection hn with hn;subst hn
      have:Qq p p=0:=(Wt).2 rfl;omega
     ·exact absurd (Xy cc1 (ord n m t p hn hp h)) (by have:Qq p p=0:=(Wt).2 rfl;omega)
    have ih:=fun o ρ=>IH (m+1) j o ρ (by omega) hmn2 hnj hj;simp[-getElem?_pos,h0,h2,h4,h8,h9,h10,hltI,hw,hw1,hp,h3,cc1];refine ih o _ ?_ ?_ ?_ ?_ ?_ ?_ <;> simp[h0,h2,h4,h8,h10]
   ·have hmn2:n<=m:=by
     rcases QT m n with h | h
     ·exact absurd (ord m n p t hp hn h) cc1
     ·exact h
    have ih:=fun o ρ=>IH i m o ρ (by omega) hin hmn2 (by omega);simp[-getElem?_pos,h0,h2,h4,h8,h9,h10,hltI,hw,hw1,hp,h3,cc1];refine ih o _ ?_ ?_ ?_ ?_ ?_ ?_ <;> simp[h0,h2,h4,h8,h9]
  ·have e1:i=n:=by omega
   have e2:j=n:=by omega
   subst e1 e2;exact base o ρ h0 h4 h2 h8 h9 h10
def Ai {l:Qc} {t:Tm} {B:Qa} (o:Bool) (hl:l.length < 100000000) (hm: ∀p∈l,p.mass < big) (ht:t.mass < big) (ha:Asc l) {n:Nat} (hn:l[n]? =some t):
  call tb 378 [.sl o 4 (Qb l),.agg (Qf t),.fn 30 []] B=some (.tup [.int .i64 n,.bool true],B):=by
 have hnl:n < l.length:=(WN.1 hn).1;have h:=fun ρ=>QhO (B:=B) hl hm ht ha hn l.length 0 l.length false ρ (by omega) (by omega) (by omega) (by omega);rw[zcc 378 rfl rfl];simp[-getElem?_pos,f378C];refine h _ ?_ ?_ ?_ ?_ ?_ ?_ <;> simp
def VN (l:List Qj):Qc:=(l.map Zn).flatten
def XD (l:List Qj):Qc:=Yv (VN l)
def Lm (g:Qj) (a:List Qj):VN (g:: a)=Zn g ++ VN a:=by simp[VN]
def Qg2 {l:List Qj} {g:Qj} {q:Pw} (hg:g∈l) (hq:q∈g):q.1∈VN l:=by
 simp only[VN,M8,Wf];exact⟨Zn g,⟨g,hg,rfl⟩,Wf.2 ⟨q,hq,rfl⟩⟩
def QfX {l:List Qj} {t:Tm} (h:t∈VN l): ∃g∈l,∃q∈g,q.1=t:=by
 simp only[VN,M8,Wf]at h;obtain⟨ks,⟨g,hg,rfl⟩,ht⟩:=h;obtain⟨q,hq,rfl⟩:=Wf.1 ht;exact⟨g,hg,q,hq,rfl⟩
def Qjj (x y:Tm) (bs:Qa) (hx:x.mass < big) (hy:y.mass < big):call tb 375 [.agg (Qf x),.agg (Qf y)] bs=some (.bool (decide (Qq x y=0)),bs):=by
 have h:=call_Compare x y bs hx hy;rw[zcc 375 rfl rfl];simp[f375C,h]
def QoR:EqF 375:=fun x y bs hx hy=>Qjj x y bs hx hy
def Qqv {B0 B:Qa} {v:AV} {l:Qc} (h:TS B0 B v l) (hl:l.length < 1000000) (hm: ∀x∈l,x.mass < 1000000) (ρ:Ql) (h3:ρ 3=v):
  R tb f373r1 ρ B (QN f373 B0)=some (.sl true 4 (Qb (Yv l)),B0):=by
 obtain⟨M,id,sz,rfl,rfl,hc⟩:=h;have hg:=Xh (Yv l);rcases hc with⟨rfl,rfl,rfl⟩ | ⟨rfl,hid,hne,hb⟩
 ·have hs:call tb 170 [.gs 0 0 0 0,.fn 30 []] (B0 ++ M)=some (.tup [],B0 ++ M):=by rw[Ws tb_170];simp[Mw]
  have hc:=Qf9 375 (B0 ++ M);have e:Yv []=([]:Qc):=rfl;simp[f373r1,h3,hs,hc,Qb,e,YH]
 ·have hmb: ∀x∈l,x.mass < big:=fun x hx=>by have:=hm x hx;unfold big;omega
  have hs:=HF l (B0 ++ M) id hb (by omega) hmb;have hB:=YT hb;have hS: ((B0 ++ M).set id (Qr (Xm l)))[id]? =some (Qr (Xm l)):=by rw[Xq,Qn rfl,Qn hB]
  have hsne:Xm l≠[]:=by
   intro e;obtain⟨x,hx⟩:=QdR l hne;have:=(R0 (l:=l)).2 hx;rw[e]at this;simp at this
  have hc:=Qjr 375 QoR (Xm l) ((B0 ++ M).set id (Qr (Xm l))) id hS hsne (by rw[Tx];omega) fun x hx=>hmb x (R0.1 hx);rw[Ks,Tx]at hc;unfold Ka at hc;rw[TX]at hc;simp only[X7 hid]at hs hc;simp[-getElem?_pos,f373r1,h3,hs,hc,hg,YH]
def Qqt (g:Qj) (B0:Qa) (hg:SmP g) (c:AC) (K:Kn) (X:Out):
  ∀(post pre:Qj) (acc:Qc) (B:Qa) (v:AV) (o:Bool) (ρ:Ql),g=pre ++ post->TS B0 B v acc->acc.length+post.length < 500000->
   ρ 3=v->ρ 14= .sl o 5 (QF g)->ρ 15= .int .i64 g.length->ρ 16= .int .i64 pre.length->
   (∀(ρ':Ql) (v':AV) (B':Qa),TS B0 B' v' (acc ++ Zn post)->ρ' 3=v'->ρ' 8=ρ 8->ρ' 9=ρ 9->ρ' 10=ρ 10->R tb c ρ' B' K=X)->
  R tb (.loop f373l0) ρ B (Qo 2 (Qo 1 (QB tb c K)))=X:=by
 intro post
 induction post with
 | nil=>
  intro pre acc B v o ρ hk hts hal h3 h14 h15 h16 H;simp only[QH]at hk;rw[<- hk]at h16;obtain⟨id,sz,rfl⟩:=GS hts;rw[Qe f373l0.eq_1];simp[h3,h14,h15,h16];refine H _ _ _ (by simpa[Zn]using hts) ?_ ?_ ?_ ?_ <;> simp[h3]
 | cons q post IH=>
  intro pre acc B v o ρ hk hts hal h3 h14 h15 h16 H;have hgt:=Qw hk;have hll:=QE hk;have hw1:IntKind.i64.wrap ((pre.length:Int)+1)=(pre.length:Int)+1:=Zf (by have:=hg.1;omega) (by have:=hg.1;omega);have hlt:=QI hk;simp only[ZQ]at hal;obtain⟨v2,B2,q1,q2,q3⟩:=Qlv q.1 false hts (by omega);have ih:=fun ρ=>IH (pre ++ [q]) (acc ++ [q.1]) B2 v2 o ρ (by rw[hk];simp) q2 (by simp;omega);obtain⟨id,sz,rfl⟩:=GS hts;obtain⟨id2,sz2,rfl⟩:=GS q2;rw[Qe f373l0.eq_1];simp[-List.append_assoc,h3,h14,h15,h16,hlt,hgt,hw1,q1];refine ih _ ?_ ?_ ?_ ?_ ?_
  ·simp
  ·simp[h14]
  ·simp[h15]
  ·simp
  ·intro ρ' v' B' g1 g3 g8 g9 g10;refine H ρ' v' B' (by simpa[Zn]using g1) g3 ?_ ?_ ?_
   ·rw[g8];simp
   ·rw[g9];simp
   ·rw[g10];simp
def Qqu (l:List Qj) (B0:Qa) (hl:l.length < 1000) (hs: ∀g∈l,SmP g/\g.length<=200):
  ∀(post pre:List Qj) (acc:Qc) (B:Qa) (v:AV) (o:Bool) (ρ:Ql),l=pre ++ post->TS B0 B v acc->acc.length+200*post.length<=200*l.length->(∀x∈acc,x.mass < 1000000)->
   ρ 3=v->ρ 8= .sl o 1 (ZK l)->ρ 9= .int .i64 l.length->ρ 10= .int .i64 pre.length->
  R tb (.loop f373l1) ρ B (Qo 0 (QB tb f373r1 (QN f373 B0)))=some (.sl true 4 (Qb (Yv (acc ++ VN post))),B0):=by
 intro post
 induction post with
 | nil=>
  intro pre acc B v o ρ hk hts hal ham h3 h8 h9 h10;simp only[QH]at hk;rw[<- hk]at h10;have h:=fun ρ h3=>Qqv hts (by simp at hal;omega) ham ρ h3;have e:acc ++ VN []=acc:=by simp[VN]
  rw[Qe f373l1.eq_1,e];simp[h3,h8,h9,h10];apply h;simp[h3]
 | cons g post IH=>
  intro pre acc B v o ρ hk hts hal ham h3 h8 h9 h10;have hgt:=Qw hk;have hll:=QE hk;have hw1:=wr1 pre.length (by omega);have hlt:=QI hk;obtain⟨hsg,hg2⟩:=hs g (by rw[hk];simp);simp only[ZQ]at hal;have hpl: (Zn g).length=g.length:=by simp[Zn]
  have ih:=fun B v ρ hts=>IH (pre ++ [g]) (acc ++ Zn g) B v o ρ (by rw[hk];simp) hts (by rw[Zk,hpl];omega) (fun x hx=>by
   rcases Xe.1 hx with hx | hx
   ·exact ham x hx
   ·obtain⟨q,hq,rfl⟩:=Wf.1 hx;exact hsg.2 q hq)
  have e:acc ++ VN (g:: post)=(acc ++ Zn g)++ VN post:=by rw[Lm,ZY]
  have h:=fun o ρ c K X=>Qqt g B0 hsg c K X g [] acc B v o ρ rfl hts (by omega);rw[e,Qe f373l1.eq_1];simp[-List.append_assoc,h3,h8,h9,h10,hlt,hgt];refine h false _ _ _ _ ?_ ?_ ?_ ?_ ?_
  ·simp[h3]
  ·simp
  ·simp
  ·simp
  ·intro ρ' v' B' g1 g3 g8 g9 g10;obtain⟨id2,sz2,rfl⟩:=GS g1;simp[-List.append_assoc,f373r0,g10,h10,hw1];refine ih B' _ _ g1 ?_ ?_ ?_ ?_
   ·simp[g3]
   ·simp[g8,h8]
   ·simp[g9,h9]
   ·simp
def Qji (l:List Qj) (o:Bool) (B0:Qa) (hl:l.length < 1000) (hs: ∀g∈l,SmP g/\g.length<=200):
  call tb 373 [.sl o 1 (ZK l)] B0=some (.sl true 4 (Qb (XD l)),B0):=by
 have h:=fun o ρ=>Qqu l B0 hl hs l [] [] B0 (.gs 0 0 0 0) o ρ rfl (QpU B0) (by simp) (by simp);rw[zcc 373 rfl rfl];simp only[XP]at h;unfold XD;generalize Qb (Yv (VN l))=E1 at *;simp[f373C];refine h false _ ?_ ?_ ?_ ?_ <;> simp
def pwT:Qj->Tm->Int
 | [],_=>0
 | q:: g,t=>if Qq q.1 t=0 then q.2 else pwT g t
def QeU: ∀{g:Qj} {q:Pw} {t:Tm},Qq q.1 t≠0->pwT (g ++ [q]) t=pwT g t
 | [],q,t,h=>by simp[pwT,h]
 | p:: g,q,t,h=>by simp only[WC,pwT,QeU h]
def QeT: ∀{g:Qj} {q:Pw},(∀p∈g,Qq p.1 q.1≠0)->pwT (g ++ [q]) q.1=q.2
 | [],q,_=>by simp[pwT,Wt.2 rfl]
 | p:: g,q,h=>by
  have h1:=h p (by simp);have h2:=QeT (g:=g) (q:=q) fun x hx=>h x (by simp[hx]);simp only[WC,pwT,Qm h1,h2]
def QJ (l:QO):Qh:=l.map fun i=>AV.int .i64 i
@[simp] def Tv (l:QO): (QJ l).length=l.length:=by simp[QJ]
@[simp] def CA (l:QO) (i:Nat): (QJ l)[i]? =(l[i]?).map fun i=>AV.int .i64 i:=by simp[QJ]
@[simp] def Qrf (l:QO): (QJ l).map AV.strip=QJ l:=by
 simp only[QJ,Lj];exact PR fun i _=>rfl
def QdO:=@List.set_eq_take_append_cons_drop
def Jg (l:QO) {n:Nat} (v:Int) (h:n < l.length): (QJ l).take n ++ AV.int .i64 v:: (QJ l).drop (n+1)=QJ (l.set n v):=by
 rw[QdO,Qn h];simp[QJ]
def QeY (l:QO):QJ l=YI (fun i:Int=>[AV.int .i64 i]) l:=by
 induction l with
 | nil=>rfl
 | cons a l ih=>
  rw[Tw,<- ih];rfl
def Bz (l:QO):Z3 (QJ l) 0 1 l.length=ZF l:=by
 have h:=XZ (f:=fun i:Int=>[AV.int .i64 i]) (k:=1) (fun _=>rfl) (fun _=>rfl) l [];rw[QH,<- QeY]at h;exact h
def CB (n:Nat) (l:Qc) (h:l.length=n):List.replicate n (AV.int .i64 0)=QJ (l.map (pwT [])):=by
 subst h;simp only[QJ,Lj]
 induction l with
 | nil=>rfl
 | cons a l ih=>simp only[ZQ,SG,Ym,ih];rfl
def A6 {cols:Qc} {pre:Qj} {q:Pw} {n:Nat} (ha:Asc cols) (hn:cols[n]? =some q.1) (hp: ∀p∈pre,Qq p.1 q.1≠0):
  (cols.map (pwT pre)).set n q.2=cols.map (pwT (pre ++ [q])):=by
 apply Tl;intro i;rw[Xq,Wr,Wr];have hnl:n < cols.length:=(WN.1 hn).1;by_cases c:n=i
 ·subst c;rw[Qn rfl,Qn (by simpa using hnl),hn];simp[QeT hp]
 ·rw[Qm c];cases hi:cols[i]? with
  | none=>rfl
  | some t=>
   have hne:Qq q.1 t≠0:=by
    intro e;have e2:=(Wt).1 e;obtain⟨h1,rfl⟩:=WN.1 hi;obtain⟨h2,e3⟩:=WN.1 hn;rw[<- e3]at e2;rcases QT n i with h | h
    ·have:=Nb.1 ha n i h2 h1 h;rw[e2,Wt.2 rfl]at this;omega
    ·have:=Nb.1 ha i n h1 h2 (by omega);rw[e2,Wt.2 rfl]at this;omega
   simp[QeU hne]
def QdX {pre post:Qj} {q:Pw} (h:Asc (Zn (pre ++ q:: post))): ∀p∈pre,Qq p.1 q.1≠0:=by
 intro p hp;simp only[Zn,Uk,Ym]at h;have:=(List.pairwise_append.1 h).2.2 p.1 (Wf.2 ⟨p,hp,rfl⟩) q.1 (by simp);omega
def Qoo (l:QO) (bs:Qa) (r:Out):Prop:=∃o,r=some (.sl o 1 (ZF l),bs)
def Ni:=@List.set_append_right
def Qq7 (cols:Qc) (g:Qj) (B0:Qa) (hcl:cols.length < 1000000) (hcm: ∀t∈cols,t.mass < 1000000) (ha:Asc cols) (hg:SmP g) (hga:Asc (Zn g)) (hin: ∀q∈g,q.1∈cols):
  ∀(post pre:Qj) (o o2:Bool) (ρ:Ql),g=pre ++ post->ρ 0= .sl o 4 (Qb cols)->ρ 5= .gs B0.length 0 1 cols.length->ρ 13= .sl o2 5 (QF g)->ρ 14= .int .i64 g.length->ρ 15= .int .i64 pre.length->
  Qoo (cols.map (pwT g)) B0 (R tb (.loop f377l0) ρ (B0 ++ [QJ (cols.map (pwT pre))]) (Qo 0 (QB tb f377r0 (QN f377 B0)))):=by
 intro post
 induction post with
 | nil=>
  intro pre o o2 ρ hk h0 h5 h13 h14 h15;simp only[QH]at hk;subst hk;have hch:=Bz (cols.map (pwT g));rw[WQ]at hch;by_cases c:cols.length=0
  ·have:cols=[]:=YX c;subst this;refine⟨false,?_⟩;rw[Qe f377l0.eq_1];simp at h5;simp[h0,h5,h13,h14,h15,f377r0,Yr,ZF]
  ·refine⟨true,?_⟩;have hgp:=Ny (cols.map (pwT g));have hB: (B0 ++ [QJ (cols.map (pwT g))])[B0.length]? =some (QJ (cols.map (pwT g))):=Ye;have hrl: (QJ (cols.map (pwT g))).length=cols.length:=by simp
   generalize QJ (cols.map (pwT g))=RR at *;generalize ZF (cols.map (pwT g))=EE at *;rw[Qe f377l0.eq_1];simp[-getElem?_pos,h0,h5,h13,h14,h15,f377r0,Yr,c,hB,hrl,hch,hgp]
 | cons q post IH=>
  intro pre o o2 ρ hk h0 h5 h13 h14 h15;have hgt:=Qw hk;have hll:=QE hk;have hgl:=hg.1;have hw1:=wr1 pre.length (by omega);have hlt:=QI hk;have hq:q∈g:=by rw[hk];simp
  obtain⟨n,hn⟩:=UG (hin q hq);have hnl:n < cols.length:=(WN.1 hn).1;have hbs:=fun o B=>Ai (l:=cols) (t:=q.1) (B:=B) o (by omega) (fun p hp=>by have:=hcm p hp;unfold big;omega) (hg.big q hq) ha hn;have hst:=A6 ha hn (QdX (by rw[<- hk];exact hga));have hput:=Jg (cols.map (pwT pre)) q.2 (n:=n) (by simpa using hnl);rw[hst]at hput;have hB: (B0 ++ [QJ (cols.map (pwT pre))])[B0.length]? =some (QJ (cols.map (pwT pre))):=Ye;have hrl: (QJ (cols.map (pwT pre))).length=cols.length:=by simp
  have hset: ∀x,(B0 ++ [QJ (cols.map (pwT pre))]).set B0.length x=B0 ++ [x]:=fun x=>by rw[Ni _ _ (Zm _)];simp
  have ih:=fun ρ=>IH (pre ++ [q]) o o2 ρ (by rw[hk];simp);generalize QJ (cols.map (pwT pre))=RR at *;generalize QJ (cols.map (pwT (pre ++ [q])))=R2 at *;have hn1:n+1<=cols.length:=hnl;have hnI: (n:Int) < (cols.length:Int):=by omega
  rw[Qe f377l0.eq_1];simp[-getElem?_pos,Zb,Ze,Zv,h0,h5,h13,h14,h15,hlt,hgt,hw1,hbs,hnl,hn1,hnI,hB,hrl,hput,hset];apply ih <;> simp[h0,h5,h13,h14]
def Qjk (cols:Qc) (g:Qj) (o o2:Bool) (B0:Qa) (hcl:cols.length < 1000000) (hcm: ∀t∈cols,t.mass < 1000000) (ha:Asc cols) (hg:SmP g) (hga:Asc (Zn g)) (hin: ∀q∈g,q.1∈cols):
  Qoo (cols.map (pwT g)) B0 (call tb 377 [.sl o 4 (Qb cols),.sl o2 5 (QF g)] B0):=by
 have h:=fun ρ=>Qq7 cols g B0 hcl hcm ha hg hga hin g [] false false ρ rfl;have hr:=CB cols.length cols rfl;have e8:cols.length*8<=140737488355328:=by omega
 have e4: (cols.length:Int)<=4611686018427387904:=by omega
 rw[zcc 377 rfl rfl];rw[<- hr]at h;generalize cols.map (pwT g)=EE at *;simp[f377C,e8,e4];apply h <;> simp
def QpI (cols:Qc) (g:Qj) (B0:Qa) (hcl:cols.length < 1000000) (hcm: ∀t∈cols,t.mass < 1000000) (ha:Asc cols) (hg:SmP g) (hga:Asc (Zn g)) (hin: ∀q∈g,q.1∈cols):
  ∀(post pre:Qj) (o o2:Bool) (ρ:Ql),g=pre ++ post->ρ 0= .sl o 4 (Qb cols)->ρ 5= .gs B0.length 0 1 cols.length->ρ 13= .sl o2 5 (QF g)->ρ 14= .int .i64 g.length->ρ 15= .int .i64 pre.length->
  R tb (.loop f563l0) ρ (B0 ++ [QJ (cols.map (pwT pre))]) (Qo 0 (QB tb f563r0 (QN f563 B0)))=some (.gs B0.length 0 1 cols.length,B0 ++ [QJ (cols.map (pwT g))]):=by
 intro post
 induction post with
 | nil=>
  intro pre o o2 ρ hk h0 h5 h13 h14 h15;simp only[QH]at hk;subst hk;rw[Qe f563l0.eq_1];simp[h0,h5,h13,h14,h15,f563r0]
 | cons q post IH=>
  intro pre o o2 ρ hk h0 h5 h13 h14 h15;have hgt:=Qw hk;have hll:=QE hk;have hgl:=hg.1;have hw1:=wr1 pre.length (by omega);have hlt:=QI hk;have hq:q∈g:=by rw[hk];simp
  obtain⟨n,hn⟩:=UG (hin q hq);have hnl:n < cols.length:=(WN.1 hn).1;have hbs:=fun o B=>Ai (l:=cols) (t:=q.1) (B:=B) o (by omega) (fun p hp=>by have:=hcm p hp;unfold big;omega) (hg.big q hq) ha hn;have hst:=A6 ha hn (QdX (by rw[<- hk];exact hga));have hput:=Jg (cols.map (pwT pre)) q.2 (n:=n) (by simpa using hnl);rw[hst]at hput;have hB: (B0 ++ [QJ (cols.map (pwT pre))])[B0.length]? =some (QJ (cols.map (pwT pre))):=Ye;have hrl: (QJ (cols.map (pwT pre))).length=cols.length:=by simp
  have hset: ∀x,(B0 ++ [QJ (cols.map (pwT pre))]).set B0.length x=B0 ++ [x]:=fun x=>by rw[Ni _ _ (Zm _)];simp
  have ih:=fun ρ=>IH (pre ++ [q]) o o2 ρ (by rw[hk];simp);generalize QJ (cols.map (pwT pre))=RR at *;generalize QJ (cols.map (pwT (pre ++ [q])))=R2 at *;generalize QJ (cols.map (pwT g))=R3 at *;have hn1:n+1<=cols.length:=hnl;have hnI: (n:Int) < (cols.length:Int):=by omega
  rw[Qe f563l0.eq_1];simp[-getElem?_pos,Zb,Ze,Zv,h0,h5,h13,h14,h15,hlt,hgt,hw1,hbs,hnl,hn1,hnI,hB,hrl,hput,hset];apply ih <;> simp[h0,h5,h13,h14]
def QjA (cols:Qc) (g:Qj) (o o2:Bool) (B0:Qa) (hcl:cols.length < 1000000) (hcm: ∀t∈cols,t.mass < 1000000) (ha:Asc cols) (hg:SmP g) (hga:Asc (Zn g)) (hin: ∀q∈g,q.1∈cols):
  call tb 563 [.sl o 4 (Qb cols),.sl o2 5 (QF g)] B0=some (.gs B0.length 0 1 cols.length,B0 ++ [QJ (cols.map (pwT g))]):=by
 have h:=fun ρ=>QpI cols g B0 hcl hcm ha hg hga hin g [] false false ρ rfl;have hr:=CB cols.length cols rfl;have e8:cols.length*8<=140737488355328:=by omega
 have e4: (cols.length:Int)<=4611686018427387904:=by omega
 rw[zcc 563 rfl rfl];rw[<- hr]at h;generalize QJ (cols.map (pwT g))=EE at *;simp[f563C,e8,e4];apply h <;> simp
def nz (i:Int):Bool:= !decide (i=0)
def QjB (i:Int) (bs:Qa):call tb 598 [.int .i64 i] bs=some (.bool (nz i),bs):=by
 rw[zcc 598 rfl rfl];unfold nz;by_cases h:i=0
 ·simp[f598C,h]
 ·simp[f598C,h]
def Qg0 (l:QO) (id:Nat) (B:Qa) (hB:B[id]? =some (QJ l)) (hl:l.length < 1000000):
  ∀(post pre:QO) (ρ:Ql),l=pre ++ post->pre.any nz=false->ρ 0= .gs id 0 1 l.length->ρ 1= .fn 598 []->ρ 7= .int .i64 l.length->ρ 8= .int .i64 pre.length->
  R8 (l.any nz) B (R tb (.loop f600l0) ρ B (Qo 0 (QB tb f600r0 (QN f600 B)))):=by
 intro post
 induction post with
 | nil=>
  intro pre ρ hk hp h0 h1 h7 h8;simp only[QH]at hk;rw[<- hk]at h8 hp;rw[Qe f600l0.eq_1];refine⟨-1,?_,by rw[hp];simp⟩;simp[h0,h1,h7,h8,f600r0]
 | cons x post IH=>
  intro pre ρ hk hp h0 h1 h7 h8;have hgt:=Qw hk;have hll:=QE hk;have hw1:=wr1 pre.length (by omega);have hlt:=QI hk;have hltN:pre.length < l.length:=by omega
  have hlt1:pre.length+1<=l.length:=by omega
  have hcall:=QjB x B;have hrd: (QJ l)[pre.length]? =some (.int .i64 x):=by rw[CA,hgt];rfl
  have hrl:=Tv l;have ih:=fun ρ hpp=>IH (pre ++ [x]) ρ (by rw[hk];simp) hpp;generalize QJ l=RR at *;rw[Qe f600l0.eq_1];cases ho:nz x
  ·rw[ho]at hcall;have ih2:=fun ρ=>ih ρ (by rw[SJ,hp];simp[ho]);simp[-getElem?_pos,Zb,h0,h1,h7,h8,hlt,hltN,hlt1,hB,hrd,hrl,hw1,hcall,-List.any_eq_false,-List.any_eq_true];apply ih2 <;> simp[h0,h1,h7]
  ·rw[ho]at hcall;have hany:l.any nz=true:=UX.2 ⟨x,by rw[hk];simp,ho⟩;refine⟨pre.length,?_,by rw[hany];simp⟩;simp[-getElem?_pos,Zb,h0,h1,h7,h8,hlt,hltN,hlt1,hB,hrd,hrl,hcall]
def QjC (l:QO) (id:Nat) (B:Qa) (hB:B[id]? =some (QJ l)) (hl:l.length < 1000000):
  call tb 599 [.gs id 0 1 l.length,.fn 598 []] B=some (.bool (l.any nz),B):=by
 have h1:=fun ρ=>Qg0 l id B hB hl l [] ρ rfl rfl;have h2:R8 (l.any nz) B (call tb 600 [.gs id 0 1 l.length,.fn 598 []] B):=by
  rw[zcc 600 rfl rfl];simp[f600C,-List.any_eq_false,-List.any_eq_true];apply h1 <;> simp
 obtain⟨i,hi,hb⟩:=h2;rw[zcc 599 rfl rfl];simp[f599C,hi,-List.any_eq_false,-List.any_eq_true];cases hx:l.any nz
 ·rw[hx]at hb;simp at hb;simpa using hb
 ·rw[hx]at hb;simp at hb;simpa using hb
def Yo:QO->List Qj->Tm->Int
 | c:: cs,g:: gs,t=>c*pwT g t+Yo cs gs t
 | _,_,_=>0
def LA: ∀{cs:QO} {gs:List Qj} (c:Int) (g:Qj) (t:Tm),cs.length=gs.length->Yo (cs ++ [c]) (gs ++ [g]) t=Yo cs gs t+c*pwT g t
 | [],[],c,g,t,_=>by simp[Yo]
 | a:: cs,b:: gs,c,g,t,h=>by
  have:=LA (cs:=cs) (gs:=gs) c g t (by simpa using h);simp only[WC,Yo,this];omega
def Cl {c p:Int} (hc:c.natAbs<=35184372088832) (hp:p.natAbs<=1000): (c*p).natAbs<=35184372088832000:=by
 rw[Int.natAbs_mul];exact VU (E5 hc hp) (by decide)
def okG (g:Qj):Prop:=Z7 g=0/\SmP g
def okG.asc {g:Qj} (h:okG g):Asc (Zn g):=(UU h.1 h.2.big).1.asc
def okG.bd {g:Qj} (h:okG g): ∀q∈g,-1000<=q.2/\q.2<=1000:=fun q hq=>by
 have h1:=h.1;unfold Z7 at h1;split at h1
 ·cases h1
 ·exact⟨((IR g none h1).1 q hq).2.2.2.1,((IR g none h1).1 q hq).2.2.2.2⟩
def okG.len {g:Qj} (h:okG g):g.length<=200:=(UU h.1 h.2.big).2.1
def IB: ∀{g:Qj} {t:Tm},(∀q∈g,-1000<=q.2/\q.2<=1000)->(pwT g t).natAbs<=1000
 | [],t,_=>by simp[pwT]
 | q:: g,t,h=>by
  have h1:=h q (by simp);have h2:=IB (g:=g) (t:=t) fun x hx=>h x (by simp[hx]);simp only[pwT];split
  ·omega
  ·exact h2
def Hn {c:Int} (h:Yu c=false):c.natAbs<=35184372088832:=by
 simp[Yu]at h;omega
def DI: ∀{cs:QO} {gs:List Qj} {t:Tm},(∀c∈cs,Yu c=false)->(∀g∈gs,okG g)->(Yo cs gs t).natAbs<=gs.length*35184372088832000
 | [],gs,t,_,_=>by cases gs <;> simp[Yo]
 | c:: cs,[],t,_,_=>by simp[Yo]
 | c:: cs,g:: gs,t,h1,h2=>by
  have a:=DI (cs:=cs) (gs:=gs) (t:=t) (fun x hx=>h1 x (by simp[hx])) (fun x hx=>h2 x (by simp[hx]));have b:=Cl (Hn (h1 c (by simp))) (IB (t:=t) (h2 g (by simp)).bd);simp only[Yo,ZQ,VH];omega
def Qqr (cols:Qc) (g:Qj) (ci:Int) (cs:QO) (i:Nat) (B0:Qa) (f:Tm->Int) (hcl:cols.length < 1000000) (hc:cs[i]? =some ci) (hm: ∀t,IntKind.i64.wrap (ci*pwT g t)=ci*pwT g t) (hs: ∀t,IntKind.i64.wrap (f t - ci*pwT g t)=f t - ci*pwT g t) (c:AC) (K:Kn) (X:Out):
  ∀(post pre:Qc) (o o2:Bool) (ρ:Ql),cols=pre ++ post->ρ 2= .sl o 1 (ZF cs)->ρ 8= .gs B0.length 0 1 cols.length->ρ 9= .int .i64 i->ρ 54= .sl o2 1 (ZF (cols.map (pwT g)))->ρ 55= .int .i64 cols.length->ρ 56= .int .i64 pre.length->
   (∀ρ':Ql,(∀j,j < 11->ρ' j=ρ j)->ρ' 45=ρ 45->ρ' 46=ρ 46->ρ' 47=ρ 47->R tb c ρ' (B0 ++ [QJ (cols.map fun t=>f t - ci*pwT g t)]) K=X)->
  R tb (.loop f367l0) ρ (B0 ++ [QJ ((pre.map fun t=>f t - ci*pwT g t)++ post.map f)]) (Qo 2 (Qo 1 (QB tb c K)))=X:=by
 intro post
 induction post with
 | nil=>
  intro pre o o2 ρ hk h2 h8 h9 h54 h55 h56 H;simp only[QH]at hk;subst hk;simp only[We,QH];generalize QJ (cols.map fun t=>f t - ci*pwT g t)=RR at *;rw[Qe f367l0.eq_1];simp[h2,h8,h9,h54,h55,h56];refine H _ ?_ ?_ ?_ ?_
  ·intro j hj;have:j≠57:=by omega
   simp[this]
  ·simp
  ·simp
  ·simp
 | cons t post IH=>
  intro pre o o2 ρ hk h2 h8 h9 h54 h55 h56 H;have hgt:=Qw hk;have hll:=QE hk;have hw1:=wr1 pre.length (by omega);have hlt:=QI hk;have hltN:pre.length < cols.length:=by omega
  have hlt1:pre.length+1<=cols.length:=by omega
  have hm':=hm t;have hs':=hs t;have hrl: (QJ ((pre.map fun t=>f t - ci*pwT g t)++ (t:: post).map f)).length=cols.length:=by simp;omega
  have hrd: (QJ ((pre.map fun t=>f t - ci*pwT g t)++ (t:: post).map f))[pre.length]? =some (.int .i64 (f t)):=by
   rw[CA,YQ (by simp)];simp
  have hput:=Jg ((pre.map fun t=>f t - ci*pwT g t)++ (t:: post).map f) (n:=pre.length) (f t - ci*pwT g t) (by simp);have hst: ((pre.map fun t=>f t - ci*pwT g t)++ (t:: post).map f).set pre.length (f t - ci*pwT g t)=((pre ++ [t]).map fun t=>f t - ci*pwT g t)++ post.map f:=by
   rw[Ni _ _ (by simp)];simp
  rw[hst]at hput;have hB: ∀x:Qh,(B0 ++ [x])[B0.length]? =some x:=fun x=>Ye;have hset: ∀x y:Qh,(B0 ++ [x]).set B0.length y=B0 ++ [y]:=fun x y=>by rw[Ni _ _ (Zm _)];simp
  have ih:=fun ρ=>IH (pre ++ [t]) o o2 ρ (by rw[hk];simp);generalize QJ ((pre.map fun t=>f t - ci*pwT g t)++ (t:: post).map f)=RR at *;generalize QJ (((pre ++ [t]).map fun t=>f t - ci*pwT g t)++ post.map f)=R2 at *;generalize QJ (cols.map fun t=>f t - ci*pwT g t)=R3 at *;generalize f t=ft at *;have hgm: (cols.map (pwT g))[pre.length]? =some (pwT g t):=by rw[Wr,hgt];rfl
  generalize cols.map (pwT g)=PP at *;generalize pwT g t=pt at *;rw[Qe f367l0.eq_1];simp[-getElem?_pos,Zb,Ze,Zv,h2,h8,h9,h54,h55,h56,hlt,hltN,hlt1,hw1,hgm,hc,hB,hrl,hrd,hm',hs',hput,hset];refine ih _ ?_ ?_ ?_ ?_ ?_ ?_ ?_
  ·simp[h2]
  ·simp[h8]
  ·simp[h9]
  ·simp[h54]
  ·simp[h55]
  ·simp
  ·intro ρ' gj g45 g46 g47;refine H ρ' (fun j hj=> ?_) ?_ ?_ ?_
   ·rw[gj j hj];have e1:j≠11:=by omega
    have e2:j≠12:=by omega
    have e3: ¬(56<=j):=by omega
    simp[e1,e2,show j≠56 by omega,show j≠57 by omega,show j≠58 by omega,show j≠59 by omega,show j≠60 by omega,show j≠61 by omega,show j≠62 by omega,show j≠63 by omega,show j≠64 by omega,show j≠65 by omega,show j≠66 by omega,show j≠67 by omega,show j≠68 by omega,show j≠69 by omega,show j≠70 by omega,show j≠71 by omega,show j≠72 by omega,show j≠73 by omega]
   ·rw[g45];simp
   ·rw[g46];simp
   ·rw[g47];simp
end Go.Am
