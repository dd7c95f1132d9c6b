/-
  En17, En18, En19, En20, En21, En22, En23, En24, En25, En26, En30, En31, En32, En33, En34, En35, En36, En37.
-/
import Derived.Test.YthagbooipdejlaaGreatDoorG20
set_option linter.all false
open Go.Am.F
namespace Go.Am
set_option maxRecDepth 20000
def Sst (B0:Qa) (acc:Qc) (bs:Qa):Prop:=
 B0.length+1<=bs.length/\bs.take B0.length=B0/\
  ((acc=[]/\bs[B0.length]? =some [.gs 0 0 0 0])\/(acc≠[]/\∃g,B0.length < g/\bs[B0.length]? =some [.gs g 0 4 acc.length]/\bs[g]? =some (Qr acc)))
def CE (B0:Qa) (acc:Qc) (bs:Qa) (x:Tm) (hw:Sst B0 acc bs) (ha:acc.length < 100000000):
  ∃bs',call tb 512 [.agg (Qf x),.gp B0.length 0] bs=some (.tup [],bs')/\Sst B0 (acc ++ [x]) bs':=by
 obtain⟨h1,h2,h4⟩:=hw;have hgx:=Qi x
 ·rcases h4 with⟨rfl,h4⟩ | ⟨hne,g,hg,h4,h5⟩
  ·have hl1: ¬bs.length=B0.length:=by omega
   refine⟨((bs ++ [Qf x]).set B0.length [.gs bs.length 0 4 1]),?_,?_⟩
   ·rw[zcc 512 rfl rfl];have e1: (bs ++ [Vj])[bs.length]? =some Vj:=Yu;have e2: (bs ++ [Vj]).set bs.length (Qf x)=bs ++ [Qf x]:=by rw[Sm];simp
    have e3: (bs ++ [Qf x])[B0.length]? =some [.gs 0 0 0 0]:=by rw[Z8 (by omega)];exact h4
    simp only[Vj]at e1 e2;simp[f512,f512C,h4,appM,X6,hl1,e1,e2,e3,YV]
   ·refine⟨by simp;omega,?_,.inr ⟨by simp,bs.length,by omega,?_,?_⟩⟩
    ·rw[SO (by omega) (by omega)];exact h2
    ·rw[Tg (by simp;omega)];simp
    ·rw[WZ (by omega),Yu];simp[YB]
  ·have hl1: ¬bs.length=B0.length:=by omega
   have hgl:=Wv h5;have hlen: (Qr acc).length=acc.length*4:=Yx QN acc;have hst: (Qr acc).map AV.strip=Qr acc:=YM ZA acc;have htk: (Qr acc).take (acc.length*4)=Qr acc:=YD (by omega);have hb: (acc.length+1)*56<=140737488355328:=by omega
   have hn1: ¬(acc.length+1)*4<=acc.length*4:=by omega
   have hput: (Qr acc ++ Vj).take (acc.length*4)++ (Qf x ++ (Qr acc ++ Vj).drop (acc.length*4+4))=Qr (acc ++ [x]):=by
    rw[<- hlen,Ps,Mr (by simp[Vj])];simp[Qr,Vn,R9]
   have hzl: (Qr acc ++ Vj).length=acc.length*4+4:=by rw[Zc,hlen];rfl
   have hne0:Qr acc≠[]:=fun e=>by rw[e]at hlen;cases acc with
    | nil=>exact hne rfl
    | cons y ys=>simp at hlen
   have hlt: (acc.length:Int) < (acc.length:Int)+1:=by omega
   refine⟨((bs.set g []++ [Qr (acc ++ [x])]).set B0.length [.gs bs.length 0 4 (acc.length+1)]),?_,?_⟩
   ·rw[zcc 512 rfl rfl];have e1: (bs.set g []++ [Qr acc ++ Vj])[bs.length]? =some (Qr acc ++ Vj):=by
     have:bs.length=(bs.set g []).length:=by simp
     rw[this];exact Yu
    have e2: (bs.set g []++ [Qr acc ++ Vj]).set bs.length (Qr (acc ++ [x]))=bs.set g []++ [Qr (acc ++ [x])]:=by rw[Sm];simp
    have e3: (bs.set g []++ [Qr (acc ++ [x])])[B0.length]? =some [.gs g 0 4 acc.length]:=by
     rw[Z8 (by simp;omega),WZ (by omega)];exact h4
    have hz:Vj=[.int .i64 0,.str [],.int .i64 0,.sl false 4 []]:=rfl;rw[hz]at e1 e2 hput hzl;generalize Qr (acc ++ [x])=r2 at *;generalize Qr acc=r1 at *;simp[f512,f512C,h4,h5,appM,X6,hl1,hb,hne0,hlen,hn1,htk,hst,YV];generalize r1 ++ [AV.int IntKind.i64 0,AV.str [],AV.int IntKind.i64 0,AV.sl false 4 []]=r3 at *;simp[hlt,e1,e2,e3,hput,hzl,hl1,YV]
   ·refine⟨by simp;omega,?_,.inr ⟨by simp,bs.length,by omega,?_,?_⟩⟩
    ·rw[SO (by simp;omega) (by omega),K4 (by omega)];exact h2
    ·rw[Tg (by simp;omega)];simp
    ·rw[WZ (by omega)];have:bs.length=(bs.set g []).length:=by simp
     rw[this,Yu]
def SOk (B0:Qa) (acc:Qc) (r:Option (AV×Qa)):Prop:=∃bs',r=some (.tup [],bs')/\Sst B0 acc bs'
def Qbk (B0:Qa) (t:Tm) (B:Qa) (hm:t.mass < 100000000)
  (ih: ∀x∈t.kids,∀acc bs,Sst B0 acc bs->acc.length+x.nodes < 100000000->SOk B0 (acc ++ Zn x) (call tb 168 [.agg (Qf x),.fn 512 [.gp B0.length 0]] bs)):
  ∀(post pre acc:Qc) (bs:Qa) (ρ:Ql),t.kids=pre ++ post->Sst B0 acc bs->acc.length+Qw post < 100000000->ρ 1= .fn 512 [.gp B0.length 0]->ρ 10= .sl false 4 (Qb t.kids)->ρ 11= .int .i64 t.kids.length->ρ 12= .int .i64 pre.length->
  SOk B0 (acc ++ Ze post) (R tb (.loop f168l0) ρ bs (Qq 0 (QK f168 B))):=by
 have hmk:=QH t;intro post
 induction post with
 | nil=>
  intro pre acc bs ρ hk hw ha h1 h10 h11 h12;simp only[QF]at hk;rw[<- hk]at h12;rw[Qe f168l0.eq_1];refine⟨bs,?_,by simpa[Ze]using hw⟩;simp[h1,h10,h11,h12]
 | cons x post IH=>
  intro pre acc bs ρ hk hw ha h1 h10 h11 h12;have hg:=Qx hk;have hl:=QE hk;have hw1:=wr1 pre.length (by omega);have hlt:=QG hk;simp only[Qw]at ha;obtain⟨bs',hc,hw'⟩:=ih x (by rw[hk];simp) acc bs hw (by omega);have hfl: (Zn x).length<=x.nodes:=by rw[V3];exact Zx _
  have h2:=fun ρ=>IH (pre ++ [x]) _ bs' ρ (by rw[hk];simp) hw' (by rw[Zc];omega);rw[ZW,show Zn x ++ Ze post=Ze (x:: post) by simp[Ze]]at h2;rw[Qe f168l0.eq_1];simp[h1,h10,h11,h12,hg,hlt,hw1,hc];refine h2 _ ?_ ?_ ?_ ?_ <;> simp[h1,h10,h11]
def Qah (B0:Qa): ∀(t:Tm) (acc:Qc) (bs:Qa),t.mass < 100000000->Sst B0 acc bs->acc.length+t.nodes < 100000000->
  SOk B0 (acc ++ Zn t) (call tb 168 [.agg (Qf t),.fn 512 [.gp B0.length 0]] bs):=by
 refine Yj ?_;intro kk n s ks ih acc bs hm hw ha;have hmk:=QH (.mk kk n s ks);have hnk:=XV (.mk kk n s ks);simp only[Zs,Z3]at hmk hnk;obtain⟨bs1,hc,hw1⟩:=CE B0 acc bs (.mk kk n s ks) hw (by omega);have hl:=fun ρ=>Qbk B0 (.mk kk n s ks) bs hm (fun x hx acc bs hw ha=>ih x hx acc bs (by have:=QY hx;simp at this;omega) hw ha) ks [] _ bs1 ρ rfl hw1 (by
  rw[Zc];simp;omega)
 have he:acc ++ Zn (.mk kk n s ks)=(acc ++ [.mk kk n s ks])++ Ze ks:=by simp[Zn]
 rw[he,zcc 168 rfl rfl];simp[f168C,hc];simp only[Zs,ZW,Ws,XD]at hl;refine hl _ ?_ ?_ ?_ ?_ <;> simp[Zj]
def Qkf (L:Qc) (B0 B:Qa) (hL:L.length < 1000000) (hm: ∀x∈L,x.mass < 1000000) (X:Out) (K:Kn) (c:AC):
  ∀(post pre acc:Qc) (bs:Qa) (o:Bool) (ρ:Ql),L=pre ++ post->Sst B0 acc bs->acc.length+Qw post < 100000000->ρ 3= .gp B0.length 0->ρ 6= .sl o 4 (Qb L)->ρ 7= .int .i64 L.length->ρ 8= .int .i64 pre.length->
   (∀(ρ':Ql) (bs':Qa),Sst B0 (acc ++ Ze post) bs'->ρ' 3= .gp B0.length 0->R tb c ρ' bs' K=X)->
  R tb (.loop f511l0) ρ bs (Qq 0 (QI tb c K))=X:=by
 intro post
 induction post with
 | nil=>
  intro pre acc bs o ρ hk hw ha h3 h6 h7 h8 h;simp only[QF]at hk;rw[<- hk]at h8;rw[Qe f511l0.eq_1];simp[h6,h7,h8];refine h _ bs (by simpa[Ze]using hw) ?_;simp[h3]
 | cons x post IH=>
  intro pre acc bs o ρ hk hw ha h3 h6 h7 h8 h;have hg:=Qx hk;have hl:=QE hk;have hw1:=wr1 pre.length (by omega);have hlt:=QG hk;simp only[Qw]at ha;obtain⟨bs',hc,hw'⟩:=Qah B0 x acc bs (by have:=hm x (by rw[hk];simp);omega) hw (by omega);have hfl: (Zn x).length=x.nodes:=V3 x;have ih:=fun ρ a3 a6 a7 a8=>IH (pre ++ [x]) (acc ++ Zn x) bs' o ρ (by rw[hk];simp) hw' (by rw[Zc];omega) a3 a6 a7 a8 fun ρ' bs2 t1 t2=>h ρ' bs2 (by simpa[Ze]using t1) t2;rw[Qe f511l0.eq_1];simp[h3,h6,h7,h8,hg,hlt,hw1,hc];apply ih <;> simp[h3,h6,h7]
def Qiy (L:Qc) (o:Bool) (B0:Qa) (hL:L.length < 1000000) (hm: ∀x∈L,x.mass < 1000000) (hn:Qw L < 100000000):
  call tb 511 [.sl o 4 (Qb L)] B0=some (.sl true 4 (Qb (Zz (Ze L))),B0):=by
 have hw0:Sst B0 [] (B0 ++ [[.gs 0 0 0 0]]):=⟨by simp,by simp,.inl ⟨rfl,Yu⟩⟩;have h:=fun ρ=>Qkf L B0 B0 hL hm (some (.sl true 4 (Qb (Zz (Ze L))),B0)) (QK f511 B0) f511r0 L [] [] _ false ρ rfl hw0 (by simpa using hn);rw[zcc 511 rfl rfl];simp[f511C];refine h _ ?_ ?_ ?_ ?_ ?_
 ·simp
 ·simp
 ·simp
 ·simp
 ·intro ρ' bs' hs h3;obtain⟨h1,h2,h4⟩:=hs;rw[XD]at h4;have hall: ∀x∈Ze L,x.mass < big:=fun x hx=>by
   have: ∀(l:Qc),(∀y∈l,y.mass < 1000000)->∀x∈Ze l,x.mass < 1000000:=by
    intro l
    induction l with
    | nil=>intro _ x hx;simp[Ze]at hx
    | cons y r ih=>
     intro hy x hx;simp only[Ze,YU]at hx;rcases hx with hx | hx
     ·have:=Um y x hx;have:=hy y (by simp);omega
     ·exact ih (fun z hz=>hy z (by simp[hz])) x hx
   have:=this L hm x hx;unfold big;omega
  have hlen: (Ze L).length < 100000000:=by
   have: (Ze L).length=Qw L:=by
    have: ∀l:Qc,(Ze l).length=Qw l:=by
     intro l
     induction l with
     | nil=>simp[Ze,Qw]
     | cons y r ih=>simp only[Ze,Qw,Zc,V3,ih]
    exact this L
   omega
  generalize Ze L=A at *;have hgp:ZU (Qb (Zz A))=true:=Y8 _;rcases h4 with⟨h5,h6⟩ | ⟨h5,g,h6,h7,h8⟩
  ·have ho:=N2 bs';subst h5;simp[f511r0,h3,h6,ho,h2,Zz,Yp,Qb]
  ·have ho:=MT A bs' g h8 h5 hlen hall;have ht: (bs'.set g []).take B0.length=B0:=by rw[K4 (by omega)];exact h2
   simp[f511r0,h3,h7,ho,ht,hgp]
structure Ded where
 r:Int
 n:Int
 a:List Int
 c:List Int
 t:Tm
def Xu (l:Zf):Qa:=l.map fun i=>[AV.int .i64 i]
@[simp] def Qq0 (l:Zf): (Xu l).length=l.length:=by simp[Xu]
@[simp] def QqZ (l:Zf) (i:Nat): (Xu l)[i]? =(l[i]?).map fun i=>[AV.int .i64 i]:=by simp[Xu]
@[simp] def BP: ∀l:Zf,ZU (Xu l)=true
 | []=>rfl
 | i:: l=>by
  have:=BP l;simp only[Xu]at this ⊢;simp[ZU,QV,AV.gpfree,this]
def ZL (d:Ded):Qh:=[.int .i64 d.r,.int .i64 d.n,.sl false 1 (Xu d.a),.sl false 1 (Xu d.c)]++ Qf d.t
def Vw (d:Ded):ZL d=[.int .i64 d.r,.int .i64 d.n,.sl false 1 (Xu d.a),.sl false 1 (Xu d.c),.int .i64 d.t.kind,.str d.t.name,.int .i64 d.t.sort,.sl false 4 (Qb d.t.kids)]:=by
 simp[ZL,Zj]
@[simp] def Qqn (d:Ded): (ZL d).length=8:=by simp[Vw]
@[simp] def QoU (d:Ded): (ZL d).map AV.strip=ZL d:=by simp[Vw]
@[simp] def QoV (d:Ded): (ZL d).take 8=ZL d:=YD (by simp)
@[simp] def Ot (d:Ded): (ZL d).drop 4=Qf d.t:=by simp[ZL]
@[simp] def QoT (d:Ded): (ZL d).drop 8=[]:=by simp[Vw]
@[simp] def Qrw (d:Ded): (ZL d)[0]? =some (.int .i64 d.r):=by simp[Vw]
@[simp] def Qrx (d:Ded): (ZL d)[1]? =some (.int .i64 d.n):=by simp[Vw]
@[simp] def Qry (d:Ded): (ZL d)[2]? =some (.sl false 1 (Xu d.a)):=by simp[Vw]
@[simp] def Qrz (d:Ded): (ZL d)[3]? =some (.sl false 1 (Xu d.c)):=by simp[Vw]
@[simp] def QqU (d:Ded) (h:0 < (ZL d).length): (ZL d)[0]= .int .i64 d.r:=by simp[Vw]
@[simp] def QqV (d:Ded) (h:1 < (ZL d).length): (ZL d)[1]= .int .i64 d.n:=by simp[Vw]
@[simp] def QqW (d:Ded) (h:2 < (ZL d).length): (ZL d)[2]= .sl false 1 (Xu d.a):=by simp[Vw]
@[simp] def QqX (d:Ded) (h:3 < (ZL d).length): (ZL d)[3]= .sl false 1 (Xu d.c):=by simp[Vw]
@[simp] def QqY (d:Ded):QV (ZL d)=true:=by simp[ZL,QV,AV.gpfree,OY]
abbrev ZS:=List Ded
def ZQ (l:ZS):Qa:=l.map ZL
@[simp] def RN (l:ZS): (ZQ l).length=l.length:=by simp[ZQ]
@[simp] def Vf (l:ZS) (i:Nat): (ZQ l)[i]? =(l[i]?).map ZL:=by simp[ZQ]
@[simp] def Qdp: ∀l:ZS,ZU (ZQ l)=true
 | []=>rfl
 | p:: l=>by
  have:=Qdp l;simp only[ZQ]at this ⊢;simp[ZU,this]
def TW (x y:Tm) (bs:Qa) (hx:x.mass < big) (hy:y.mass < big):call tb 350 [.agg (Qf x),.agg (Qf y)] bs=some (.bool (decide (Qp x y=0)),bs):=by
 have h:=call_Compare x y bs hx hy;rw[zcc 350 rfl rfl];simp[f350C,h]
abbrev isN (t:Tm) (n:List UInt8):Bool:=isB t n
def Bw (t:Tm) (n:Qv) (bs:Qa):call tb 360 [.agg (Qf t),.str n] bs=some (.bool (isN t n),bs):=by
 rw[zcc 360 rfl rfl,Zj];unfold isN isB;by_cases c:t.kind=3
 ·simp[f360C,c]
 ·simp[f360C,c]
def WN (t:Tm) (n:Qv) (i:Nat) (u:Tm):Bool:=isN t n && (match t.kids[i]? with | some k=>decide (Qp k u=0) | none=>false)
def R0 (t:Tm) (n:Qv) (i:Nat) (u:Tm) (bs:Qa) (hi:isN t n=true->i < t.kids.length) (hm:t.mass < big) (hu:u.mass < big) (hi2:i < 10):
  call tb 359 [.agg (Qf t),.str n,.int .i64 i,.agg (Qf u)] bs=some (.bool (WN t n i u),bs):=by
 have h1:=Bw t n bs;rw[zcc 359 rfl rfl];unfold WN;cases c:isN t n
 ·rw[c]at h1;simp[f359C,h1]
 ·rw[c]at h1;have hil:=hi c;have hk:t.kids[i]? =some t.kids[i]:=Zw hil;have hkm:t.kids[i].mass < big:=NK hm (Sj _);have h2:=TW t.kids[i] u bs hkm hu;have e1:=Zj t;rw[hk];generalize t.kids[i]=k at *;simp only[e1]at h1 ⊢;simp[-getElem?_pos,Q8,Yf,YT,f359C,h1,h2,e1,hk]
def J5:List (Qv×Int):=[([],0),([103,105,118,101,110],0),([112,117,98,108,105,99],0),([112,97,105,114],2),([102,105,114,115,116],1),([115,101,99,111,110,100],1),([101,110,99],2),([100,101,99],2),([97,101,110,99],2),([97,100,101,99],2),([112,107],1),([115,105,103,110],2),([114,101,97,100],1),([104,97,115,104],1),([115,117,109],-1),([112,111,119,101,114],-2),([112,114,111,100,117,99,116],-1)]
def rOk (r:Int):Bool:=decide (1<=r) && decide (r<=16)
def XQ (r:Int):Qv:=if rOk r then(J5[r.toNat]?.getD ([],0)).1 else []
def Xl (r:Int):Int:=if rOk r then(J5[r.toNat]?.getD ([],0)).2 else 0
def RC {r:Int} (h:rOk r=true):r=1\/r=2\/r=3\/r=4\/r=5\/r=6\/r=7\/r=8\/r=9\/r=10\/r=11\/r=12\/r=13\/r=14\/r=15\/r=16:=by
 simp[rOk]at h;omega
def Bv (r:Int) (bs:Qa):call tb 353 [.int .i64 r] bs=some (.tup [.agg [.str (XQ r),.int .i64 (Xl r)],.bool (rOk r)],bs):=by
 cases h:rOk r
 ·rw[zcc 353 rfl rfl];have h2:r < 1\/17<=r:=by
   simp[rOk]at h;omega
  have ew:XQ r=[]:=by simp[XQ,h]
  have ea:Xl r=0:=by simp[Xl,h]
  rw[ew,ea];by_cases c:r < 1
  ·simp[f353C,c]
  ·have c2: (17:Int)<=r:=by omega
   simp[f353C,c,c2]
 ·rcases RC h with rfl | rfl | rfl | rfl | rfl | rfl | rfl | rfl | rfl | rfl | rfl | rfl | rfl | rfl | rfl | rfl <;>
   (rw[zcc 353 rfl rfl];simp[f353C,XQ,Xl,rOk,J5])
def Qit (r:Int) (bs:Qa):call tb 386 [.int .i64 r] bs=some (.tup [.str (XQ r),.int .i64 (Xl r)],bs):=by
 cases h:rOk r
 ·rw[zcc 386 rfl rfl];have h2:r < 1\/17<=r:=by
   simp[rOk]at h;omega
  have ew:XQ r=[]:=by simp[XQ,h]
  have ea:Xl r=0:=by simp[Xl,h]
  rw[ew,ea];by_cases c:r < 1
  ·simp[f386C,c]
  ·have c2: (16:Int) < r:=by omega
   simp[f386C,c,c2]
 ·rcases RC h with rfl | rfl | rfl | rfl | rfl | rfl | rfl | rfl | rfl | rfl | rfl | rfl | rfl | rfl | rfl | rfl <;>
   (rw[zcc 386 rfl rfl];simp[f386C,XQ,Xl,rOk,J5,show IntKind.i64.wrap 0=0 from rfl,show IntKind.i64.wrap 1=1 from rfl,show IntKind.i64.wrap 2=2 from rfl,show IntKind.i64.wrap 3=3 from rfl,show IntKind.i64.wrap 4=4 from rfl,show IntKind.i64.wrap 5=5 from rfl,show IntKind.i64.wrap 6=6 from rfl,show IntKind.i64.wrap 7=7 from rfl,show IntKind.i64.wrap 8=8 from rfl,show IntKind.i64.wrap 9=9 from rfl,show IntKind.i64.wrap 10=10 from rfl,show IntKind.i64.wrap 11=11 from rfl,show IntKind.i64.wrap 12=12 from rfl,show IntKind.i64.wrap 13=13 from rfl,show IntKind.i64.wrap 14=14 from rfl,show IntKind.i64.wrap 15=15 from rfl])
def Ri (d:Ded):Int:=if d.r=15 then(d.a.length:Int) - 1 else if d.r=16 then d.a.length else 0
def Qif (d:Ded) (bs:Qa) (hl:d.a.length < 1000000):call tb 354 [.agg (ZL d)] bs=some (.int .i64 (Ri d),bs):=by
 have hw:IntKind.i64.wrap ((d.a.length:Int) - 1)=(d.a.length:Int) - 1:=Zg (by omega) (by omega);rw[zcc 354 rfl rfl];unfold Ri;by_cases c:d.r=15
 ·simp[f354C,c,hw]
 ·by_cases c2:d.r=16
  ·simp[f354C,c2]
  ·simp[f354C,c,c2]
def Qiu (d:Ded) (bs:Qa) (hl:d.a.length < 1000000):call tb 387 [.agg (ZL d)] bs=some (.int .i64 (Ri d),bs):=by
 have hw:IntKind.i64.wrap ((d.a.length:Int) - 1)=(d.a.length:Int) - 1:=Zg (by omega) (by omega);rw[zcc 387 rfl rfl];unfold Ri;by_cases c:d.r=15
 ·simp[f387C,c,hw]
 ·by_cases c2:d.r=16
  ·simp[f387C,c2]
  ·simp[f387C,c,c2]
def Qf4 (f:Nat) (cs:Qh) (p:Int->Bool) (l:Zf) (bs:Qa) (hc: ∀x∈l,call tb f (.int .i64 x:: cs) bs=some (.bool (p x),bs)) (hl:l.length < 1000000) (hok: ∀x∈cs,x.ok=true):
  ∀(post pre:Zf) (o:Bool) (ρ:Ql),l=pre ++ post->pre.any p=false->ρ 0= .sl o 1 (Xu l)->ρ 1= .fn f cs->ρ 7= .int .i64 l.length->ρ 8= .int .i64 pre.length->
  RG (l.any p) bs (R tb (.loop f357l0) ρ bs (Qq 0 (QI tb f357r0 (QK f357 bs)))):=by
 intro post
 induction post with
 | nil=>
  intro pre o ρ hk hp h0 h1 h7 h8;simp only[QF]at hk;rw[<- hk]at h8 hp;rw[Qe f357l0.eq_1];refine⟨-1,?_,by rw[hp];simp⟩;simp[h0,h1,h7,h8,f357r0]
 | cons x post IH=>
  intro pre o ρ hk hp h0 h1 h7 h8;have hgt:=Qx hk;have hll:=QE hk;have hw1:=wr1 pre.length (by omega);have hlt:=QG hk;have hcall:=hc x (by rw[hk];simp);have ih:=fun ρ hpp=>IH (pre ++ [x]) o ρ (by rw[hk];simp) hpp;rw[Qe f357l0.eq_1];cases ho:p x
  ·rw[ho]at hcall;have ih2:=fun ρ=>ih ρ (by rw[Sl,hp];simp[ho]);simp[h0,h1,h7,h8,hlt,hgt,hw1,hcall,eq_true hok,-List.any_eq_false,-List.any_eq_true];apply ih2 <;> simp[h0,h1,h7]
  ·rw[ho]at hcall;have hany:l.any p=true:=UD.2 ⟨x,by rw[hk];simp,ho⟩;refine⟨pre.length,?_,by rw[hany];simp⟩;simp[h0,h1,h7,h8,hlt,hgt,hcall,eq_true hok]
def Iu (f:Nat) (cs:Qh) (p:Int->Bool) (l:Zf) (o:Bool) (bs:Qa) (hc: ∀x∈l,call tb f (.int .i64 x:: cs) bs=some (.bool (p x),bs)) (hl:l.length < 1000000) (hok: ∀x∈cs,x.ok=true):
  call tb 356 [.sl o 1 (Xu l),.fn f cs] bs=some (.bool (l.any p),bs):=by
 have h1:=fun ρ=>Qf4 f cs p l bs hc hl hok l [] false ρ rfl rfl;have h2:RG (l.any p) bs (call tb 357 [.sl false 1 (Xu l),.fn f cs] bs):=by
  rw[zcc 357 rfl rfl];simp[f357C,eq_true hok,-List.any_eq_false,-List.any_eq_true];apply h1 <;> simp
 obtain⟨i,hi,hb⟩:=h2;rw[zcc 356 rfl rfl];simp[f356C,eq_true hok,hi,-List.any_eq_false,-List.any_eq_true];cases hx:l.any p
 ·rw[hx]at hb;simp at hb;simpa using hb
 ·rw[hx]at hb;simp at hb;simpa using hb
def Yr (c:Int):Bool:=decide (c < -35184372088832) || decide (35184372088832 < c)
def Qih (c:Int) (bs:Qa):call tb 358 [.int .i64 c] bs=some (.bool (Yr c),bs):=by
 rw[zcc 358 rfl rfl];unfold Yr;by_cases h:c < -35184372088832
 ·simp[f358C,h]
 ·simp[f358C,h]
def Qim (c:Int) (bs:Qa):call tb 368 [.int .i64 c] bs=some (.bool (Yr c),bs):=by
 rw[zcc 368 rfl rfl];unfold Yr;by_cases h:c < -35184372088832
 ·simp[f368C,h]
 ·simp[f368C,h]
def U8 (i a:Int):Bool:=decide (a < 0) || decide (i<=a)
def Qig (a i:Int) (g:Nat) (bs:Qa) (hg:bs[g]? =some [.int .i64 i]):call tb 355 [.int .i64 a,.gp g 0] bs=some (.bool (U8 i a),bs):=by
 rw[zcc 355 rfl rfl];unfold U8;by_cases h:a < 0
 ·simp[-getElem?_pos,Q8,Yf,f355C,h,hg]
 ·simp[-getElem?_pos,Q8,Yf,f355C,h,hg]
set_option maxHeartbeats 1000000
def f6B (d:Ded):Bool:=(decide (0<=Xl d.r) && !decide ((d.a.length:Int)=Xl d.r)) || (decide (Xl d.r= -2) && decide (d.a.length=0)) || !decide ((d.c.length:Int)=Ri d)
def fNB (d:Ded):Bool:=decide (d.n < 0) || decide (1000000 < d.n) || (!decide (d.n=0) && !decide (d.r=1))
def TJ (d:Ded) (i:Int):Int:=if rOk d.r=false then 1 else if f6B d then 6 else if d.a.any (U8 i)then 7 else if fNB d then 7 else if d.c.any Yr then 7 else 0
def Qie (d:Ded) (i:Int) (bs:Qa) (ha:d.a.length < 1000000) (hc:d.c.length < 1000000):call tb 352 [.agg (ZL d),.int .i64 i] bs=some (.int .i64 (TJ d i),bs):=by
 have c353:=fun b=>Bv d.r b;have c354:=fun b=>Qif d b ha;have hg: (bs ++ [[AV.int .i64 i]])[bs.length]? =some [.int .i64 i]:=Yu;have c356:=Iu 355 [.gp bs.length 0] (U8 i) d.a false (bs ++ [[.int .i64 i]]) (fun a _=>Qig a i bs.length _ hg) ha (by simp[AV.ok]);have c356b:=Iu 358 [] Yr d.c false (bs ++ [[.int .i64 i]]) (fun c _=>Qih c _) hc (by simp);rw[zcc 352 rfl rfl];unfold TJ f6B fNB;cases h1:rOk d.r
 ·rw[h1]at c353;simp[f352C,c353]
 ·rw[h1]at c353;generalize hA:d.a.any (U8 i)=A at *;generalize hC:d.c.any Yr=C at *;have lz: (d.a.length:Int)=0↔d.a.length=0:=by omega
  by_cases c1:0<=Xl d.r
  ·have c3: ¬Xl d.r= -2:=by omega
   by_cases c2: (d.a.length:Int)=Xl d.r
   ·by_cases c5: (d.c.length:Int)=Ri d
    ·cases A
     ·by_cases n1:d.n < 0
      ·simp[f352C,c353,c354,c356,c356b,c1,c2,c3,c5,n1]
      ·by_cases n2:1000000 < d.n
       ·simp[f352C,c353,c354,c356,c356b,c1,c2,c3,c5,n1,n2]
       ·by_cases n3:d.n=0
        ·cases C <;> simp[f352C,c353,c354,c356,c356b,c1,c2,c3,c5,n3]
        ·by_cases n4:d.r=1
         ·simp only[n4]at c353 c1 c2 c3 c5 ⊢;cases C <;> simp[f352C,c353,c354,c356,c356b,c1,c2,c3,c5,n1,n2,n3,n4]
         ·simp[f352C,c353,c354,c356,c356b,c1,c2,c3,c5,n1,n2,n3,n4]
     ·simp[f352C,c353,c354,c356,c356b,c1,c2,c3,c5]
    ·simp[f352C,c353,c354,c356,c356b,c1,c2,c3,c5]
   ·simp[f352C,c353,c354,c356,c356b,c1,c2,c3]
  ·by_cases c4:Xl d.r= -2/\d.a.length=0
   ·obtain⟨c3,c4⟩:=c4;simp[f352C,c353,c354,c356,c356b,c1,c3,c4,lz]
   ·by_cases c5: (d.c.length:Int)=Ri d
    ·cases A
     ·by_cases c3:Xl d.r= -2
      ·have c4': ¬d.a.length=0:=fun e=>c4 ⟨c3,e⟩;by_cases n1:d.n < 0
       ·simp[f352C,c353,c354,c356,c356b,c1,c3,c4',lz,c5,n1]
       ·by_cases n2:1000000 < d.n
        ·simp[f352C,c353,c354,c356,c356b,c1,c3,c4',lz,c5,n1,n2]
        ·by_cases n3:d.n=0
         ·cases C <;> simp[f352C,c353,c354,c356,c356b,c1,c3,c4',lz,c5,n3]
         ·by_cases n4:d.r=1
          ·simp only[n4]at c353 c1 c3 c5 ⊢;cases C <;> simp[f352C,c353,c354,c356,c356b,c1,c3,c4',lz,c5,n1,n2,n3,n4]
          ·simp[f352C,c353,c354,c356,c356b,c1,c3,c4',lz,c5,n1,n2,n3,n4]
      ·by_cases n1:d.n < 0
       ·simp[f352C,c353,c354,c356,c356b,c1,c3,c5,n1]
       ·by_cases n2:1000000 < d.n
        ·simp[f352C,c353,c354,c356,c356b,c1,c3,c5,n1,n2]
        ·by_cases n3:d.n=0
         ·cases C <;> simp[f352C,c353,c354,c356,c356b,c1,c3,c5,n3]
         ·by_cases n4:d.r=1
          ·simp only[n4]at c353 c1 c3 c5 ⊢;cases C <;> simp[f352C,c353,c354,c356,c356b,c1,c3,c5,n1,n2,n3,n4]
          ·simp[f352C,c353,c354,c356,c356b,c1,c3,c5,n1,n2,n3,n4]
     ·by_cases c3:Xl d.r= -2
      ·have c4': ¬d.a.length=0:=fun e=>c4 ⟨c3,e⟩;simp[f352C,c353,c354,c356,c356b,c1,c3,c4',lz,c5]
      ·simp[f352C,c353,c354,c356,c356b,c1,c3,c5]
    ·by_cases c3:Xl d.r= -2
     ·have c4': ¬d.a.length=0:=fun e=>c4 ⟨c3,e⟩;simp[f352C,c353,c354,c356,c356b,c1,c3,c4',lz,c5]
     ·simp[f352C,c353,c354,c356,c356b,c1,c3,c5]
def QpV (d:Ded) (bs:Qa) (hc:d.c.length < 1000000):
  ∀(post pre:Zf) (ρ:Ql),d.c=pre ++ post->ρ 2= .bx (ZL d)->ρ 8= .int .i64 pre.length->
  R tb (.loop f385l1) ρ bs (Qq 2 (QI tb f385r0 (QK f385 bs)))=some (.int .i64 (if post.any Yr then 7 else 0),bs):=by
 intro post
 induction post with
 | nil=>
  intro pre ρ hk h2 h8;simp only[QF]at hk;rw[<- hk]at h8;rw[Qe f385l1.eq_1];simp[h2,h8,f385r0]
 | cons x post IH=>
  intro pre ρ hk h2 h8;have hgt:=Qx hk;have hll:=QE hk;have hw1:=wr1 pre.length (by omega);have hlt:=QG hk;have ih:=fun ρ=>IH (pre ++ [x]) ρ (by rw[hk];simp);rw[Qe f385l1.eq_1];by_cases c1:x < -35184372088832
  ·have e: (x:: post).any Yr=true:=by simp[Yr,c1]
   rw[e];simp[h2,h8,hlt,hgt,c1]
  ·by_cases c2:35184372088832 < x
   ·have e: (x:: post).any Yr=true:=by simp[Yr,c2]
    rw[e];simp[h2,h8,hlt,hgt,c1,c2]
   ·have e: (x:: post).any Yr=post.any Yr:=by simp[Yr,c1,c2]
    rw[e];generalize post.any Yr=X at *;simp[h2,h8,hlt,hgt,c1,c2,hw1];apply ih <;> simp[h2]
def QpW (d:Ded) (bs:Qa) (hc:d.c.length < 1000000) (ρ:Ql) (h2:ρ 2= .bx (ZL d)):
  R tb f385r1 ρ bs (QK f385 bs)=some (.int .i64 (if fNB d then 7 else if d.c.any Yr then 7 else 0),bs):=by
 have h:=fun ρ=>QpV d bs hc d.c [] ρ rfl;unfold fNB;generalize d.c.any Yr=X at *;by_cases n1:d.n < 0
 ·simp[f385r1,h2,n1]
 ·by_cases n2:1000000 < d.n
  ·simp[f385r1,h2,n1,n2]
  ·by_cases n3:d.n=0
   ·simp[f385r1,h2,n3];apply h <;> simp[h2]
   ·by_cases n4:d.r=1
    ·simp[f385r1,h2,n1,n2,n3,n4];apply h <;> simp[h2]
    ·simp[f385r1,h2,n1,n2,n3,n4]
def QpU (d:Ded) (i:Int) (bs:Qa) (ha:d.a.length < 1000000) (hc:d.c.length < 1000000):
  ∀(post pre:Zf) (ρ:Ql),d.a=pre ++ post->ρ 1= .int .i64 i->ρ 2= .bx (ZL d)->ρ 7= .int .i64 pre.length->
  R tb (.loop f385l0) ρ bs (Qq 0 (QI tb f385r1 (QK f385 bs)))=some (.int .i64 (if post.any (U8 i)then 7 else if fNB d then 7 else if d.c.any Yr then 7 else 0),bs):=by
 intro post
 induction post with
 | nil=>
  intro pre ρ hk h1 h2 h7;simp only[QF]at hk;rw[<- hk]at h7;have h:=fun ρ h2=>QpW d bs hc ρ h2;rw[Qe f385l0.eq_1];simp[h1,h2,h7];rw[h] <;> simp[h2]
 | cons x post IH=>
  intro pre ρ hk h1 h2 h7;have hgt:=Qx hk;have hll:=QE hk;have hw1:=wr1 pre.length (by omega);have hlt:=QG hk;have ih:=fun ρ=>IH (pre ++ [x]) ρ (by rw[hk];simp);rw[Qe f385l0.eq_1];by_cases c1:x < 0
  ·have e: (x:: post).any (U8 i)=true:=by simp[U8,c1]
   rw[e];simp[h1,h2,h7,hlt,hgt,c1]
  ·by_cases c2:i<=x
   ·have e: (x:: post).any (U8 i)=true:=by simp[U8,c2]
    rw[e];simp[h1,h2,h7,hlt,hgt,c1,c2]
   ·have e: (x:: post).any (U8 i)=post.any (U8 i):=by simp[U8,c1,c2]
    rw[e];generalize post.any (U8 i)=X at *;generalize d.c.any Yr=Y at *;simp[h1,h2,h7,hlt,hgt,c1,c2,hw1];apply ih <;> simp[h1,h2]
def HI (r:Int):XQ r=[]↔rOk r=false:=by
 cases h:rOk r
 ·simp[XQ,h]
 ·rcases RC h with rfl | rfl | rfl | rfl | rfl | rfl | rfl | rfl | rfl | rfl | rfl | rfl | rfl | rfl | rfl | rfl <;> simp[XQ,rOk,J5]
def Qis (d:Ded) (i:Int) (bs:Qa) (ha:d.a.length < 1000000) (hc:d.c.length < 1000000):call tb 385 [.agg (ZL d),.int .i64 i] bs=some (.int .i64 (TJ d i),bs):=by
 have c386:=Qit d.r bs;have c387:=Qiu d bs ha;have h:=fun ρ=>QpU d i bs ha hc d.a [] ρ rfl;rw[zcc 385 rfl rfl];unfold TJ f6B;cases h1:rOk d.r
 ·have ew:=(HI d.r).2 h1;rw[ew]at c386;simp[f385C,c386]
 ·have ew: ¬XQ d.r=[]:=fun e=>by rw[(HI d.r).1 e]at h1;cases h1
  have ewe: (XQ d.r).isEmpty=false:=by
   cases h:XQ d.r with
   | nil=>exact absurd h ew
   | cons a b=>rfl
  generalize XQ d.r=w at *;generalize d.a.any (U8 i)=A at *;generalize d.c.any Yr=C at *;have lz: (d.a.length:Int)=0↔d.a.length=0:=by omega
  by_cases c1:0<=Xl d.r
  ·have c3: ¬Xl d.r= -2:=by omega
   by_cases c2: (d.a.length:Int)=Xl d.r
   ·by_cases c5: (d.c.length:Int)=Ri d
    ·simp[f385C,c386,c387,ewe,c1,c2,c3,c5];apply h <;> simp
    ·simp[f385C,c386,c387,ewe,c1,c2,c3,c5]
   ·simp[f385C,c386,c387,ewe,c1,c2,c3]
  ·by_cases c3:Xl d.r= -2
   ·by_cases c4:d.a.length=0
    ·simp[f385C,c386,c387,ewe,c1,c3,c4,lz]
    ·by_cases c5: (d.c.length:Int)=Ri d
     ·simp[f385C,c386,c387,ewe,c1,c3,c4,lz,c5];apply h <;> simp
     ·simp[f385C,c386,c387,ewe,c1,c3,c4,lz,c5]
   ·by_cases c5: (d.c.length:Int)=Ri d
    ·simp[f385C,c386,c387,ewe,c1,c3,c5];apply h <;> simp
    ·simp[f385C,c386,c387,ewe,c1,c3,c5]
def LG (t:Tm) (n:Qv) (ks:Qc) (o:Bool) (bs:Qa) (ht:t.mass < big) (hk: (Tm.mk 3 n 0 ks).mass < big) (hl:ks.length < 1000000):
  call tb 389 [.agg (Qf t),.str n,.sl o 4 (Qb ks)] bs=some (.bool (decide (Qp t (.mk 3 n 0 ks)=0)),bs):=by
 have h1:=fun o=>UH n ks o bs (by omega);have h2:=Xs t (.mk 3 n 0 ks) bs ht hk;rw[zcc 389 rfl rfl];simp[f389C,h1,h2]
def Is (t:Tm) (n:Qv) (i:Nat) (u:Tm) (bs:Qa) (hm:t.mass < big) (hu:u.mass < big) (hi:i < 10):
  call tb 337 [.agg (Qf t),.str n,.int .i64 i,.agg (Qf u)] bs=some (.bool (WN t n i u),bs):=by
 have h1:=U2 t n bs;have e1:=Zj t;rw[zcc 337 rfl rfl];unfold WN;cases c:isN t n
 ·have c':isB t n=_:=c;rw[c']at h1;simp only[e1]at h1 ⊢;simp[f337C,h1]
 ·have c':isB t n=_:=c;rw[c']at h1;simp only[e1]at h1 ⊢;by_cases hil:i < t.kids.length
  ·have hil': (i:Int) < (t.kids.length:Int):=by omega
   have hk:t.kids[i]? =some t.kids[i]:=Zw hil;have hkm:t.kids[i].mass < big:=NK hm (Sj _);have h2:=Xs t.kids[i] u bs hkm hu;rw[hk];generalize t.kids[i]=k at *;simp[-getElem?_pos,Q8,Yf,YT,f337C,h1,h2,e1,hk,hil']
  ·have hil': ¬(i:Int) < (t.kids.length:Int):=by omega
   have hk:t.kids[i]? =none:=Q0 (by omega);rw[hk];simp[-getElem?_pos,Q8,Yf,YT,f337C,h1,e1,hil']
def ZD (l:List Qk):Qa:=l.map fun g=>[AV.sl false 5 (QC g)]
@[simp] def QpL (l:List Qk): (ZD l).length=l.length:=by simp[ZD]
@[simp] def QpK (l:List Qk) (i:Nat): (ZD l)[i]? =(l[i]?).map fun g=>[AV.sl false 5 (QC g)]:=by simp[ZD]
@[simp] def Qdq: ∀l:List Qk,ZU (ZD l)=true
 | []=>rfl
 | p:: l=>by
  have:=Qdq l;simp only[ZD]at this ⊢;simp[ZU,QV,AV.gpfree,this]
def JA (a b:List Qk):ZD a ++ ZD b=ZD (a ++ b):=by simp[ZD]
def RO (g:Qk): [[AV.sl false 5 (QC g)]]=ZD [g]:=rfl
def Vu (g:Qk):Bool:=decide (Z0 g≠0)
def SmP (g:Qk):Prop:=g.length < 1000000/\∀q∈g,q.1.mass < 1000000
def SmP.big {g:Qk} (h:SmP g): ∀q∈g,q.1.mass < big:=fun q hq=>by have:=h.2 q hq;unfold Go.Am.big;omega
def Qin (g:Qk) (o:Bool) (bs:Qa) (h:SmP g):call tb 369 [.sl o 5 (QC g)] bs=some (.bool (Vu g),bs):=by
 have h1:=fun o=>OV g o bs (by have:=h.1;omega) h.big;rw[zcc 369 rfl rfl];simp[f369C,h1,Vu]
def Qf5 (l:List Qk) (bs:Qa) (hc: ∀g∈l,SmP g) (hl:l.length < 1000000):
  ∀(post pre:List Qk) (o:Bool) (ρ:Ql),l=pre ++ post->pre.any Vu=false->ρ 0= .sl o 1 (ZD l)->ρ 1= .fn 369 []->ρ 7= .int .i64 l.length->ρ 8= .int .i64 pre.length->
  RG (l.any Vu) bs (R tb (.loop f371l0) ρ bs (Qq 0 (QI tb f371r0 (QK f371 bs)))):=by
 intro post
 induction post with
 | nil=>
  intro pre o ρ hk hp h0 h1 h7 h8;simp only[QF]at hk;rw[<- hk]at h8 hp;rw[Qe f371l0.eq_1];refine⟨-1,?_,by rw[hp];simp⟩;simp[h0,h1,h7,h8,f371r0]
 | cons x post IH=>
  intro pre o ρ hk hp h0 h1 h7 h8;have hgt:=Qx hk;have hll:=QE hk;have hw1:=wr1 pre.length (by omega);have hlt:=QG hk;have hcall:=Qin x false bs (hc x (by rw[hk];simp));have ih:=fun ρ hpp=>IH (pre ++ [x]) o ρ (by rw[hk];simp) hpp;rw[Qe f371l0.eq_1];cases ho:Vu x
  ·rw[ho]at hcall;have ih2:=fun ρ=>ih ρ (by rw[Sl,hp];simp[ho]);simp[h0,h1,h7,h8,hlt,hgt,hw1,hcall,-List.any_eq_false,-List.any_eq_true];apply ih2 <;> simp[h0,h1,h7]
  ·rw[ho]at hcall;have hany:l.any Vu=true:=UD.2 ⟨x,by rw[hk];simp,ho⟩;refine⟨pre.length,?_,by rw[hany];simp⟩;simp[h0,h1,h7,h8,hlt,hgt,hcall]
def Qio (l:List Qk) (o:Bool) (bs:Qa) (hc: ∀g∈l,SmP g) (hl:l.length < 1000000):
  call tb 370 [.sl o 1 (ZD l),.fn 369 []] bs=some (.bool (l.any Vu),bs):=by
 have h1:=fun ρ=>Qf5 l bs hc hl l [] false ρ rfl rfl;have h2:RG (l.any Vu) bs (call tb 371 [.sl false 1 (ZD l),.fn 369 []] bs):=by
  rw[zcc 371 rfl rfl];simp[f371C,-List.any_eq_false,-List.any_eq_true];apply h1 <;> simp
 obtain⟨i,hi,hb⟩:=h2;rw[zcc 370 rfl rfl];simp[f370C,hi,-List.any_eq_false,-List.any_eq_true];cases hx:l.any Vu
 ·rw[hx]at hb;simp at hb;simpa using hb
 ·rw[hx]at hb;simp at hb;simpa using hb
def QgT {l:Qc} {t:Tm} {B:Qa} (hl:l.length < 100000000) (hm: ∀p∈l,p.mass < big) (ht:t.mass < big) (ha:Asc l) {n:Nat} (hn:l[n]? =some t):
  ∀(d i j:Nat) (o:Bool) (ρ:Ql),j - i<=d->i<=n->n<=j->j<=l.length->
  ρ 0= .sl o 4 (Qb l)->ρ 4= .bx (Qf t)->ρ 2= .fn 30 []->ρ 8= .int .i64 l.length->ρ 9= .int .i64 i->ρ 10= .int .i64 j->
  R tb (.loop f378l0) ρ B (Qq 0 (QI tb f378r0 (QK f378 B)))=some (.tup [.int .i64 n,.bool true],B):=by
 have hnl:n < l.length:=(WD.1 hn).1;have ord: ∀(i j:Nat) (p q:Tm),l[i]? =some p->l[j]? =some q->i < j->Qp p q < 0:=by
  intro i j p q hp hq hij;obtain⟨h1,rfl⟩:=WD.1 hp;obtain⟨h2,rfl⟩:=WD.1 hq;exact Pi.1 ha i j h1 h2 hij
 have base: ∀(o:Bool) (ρ:Ql),ρ 0= .sl o 4 (Qb l)->ρ 4= .bx (Qf t)->ρ 2= .fn 30 []->ρ 8= .int .i64 l.length->ρ 9= .int .i64 n->ρ 10= .int .i64 n->
   R tb (.loop f378l0) ρ B (Qq 0 (QI tb f378r0 (QK f378 B)))=some (.tup [.int .i64 n,.bool true],B):=by
  intro o ρ h0 h4 h2 h8 h9 h10;have c1: (n:Int) < (l.length:Int):=by omega
  have h3:=call_Compare t t B ht ht;have e0:Qp t t=0:=(Wg).2 rfl;rw[e0]at h3;rw[Qe f378l0.eq_1];simp[-getElem?_pos,f378r0,h0,h2,h4,h8,h9,h10,c1,hn,h3]
 intro d
 induction d with
 | zero=>
  intro i j o ρ hd hin hnj hj h0 h4 h2 h8 h9 h10;have e1:i=n:=by omega
  have e2:j=n:=by omega
  subst e1 e2;exact base o ρ h0 h4 h2 h8 h9 h10
 | succ d IH=>
  intro i j o ρ hd hin hnj hj h0 h4 h2 h8 h9 h10;by_cases hlt:i < j
  ·have hmn: (i+j) / 2 < l.length:=by omega
   have hw:=Dk (i:=i) (j:=j) (by omega);have hp:=Zw hmn;have hmp:=hm _ (Sj hmn);have hltI: (i:Int) < (j:Int):=by omega
   have hb1:i<=(i+j) / 2:=by omega
   have hb2: (i+j) / 2 < j:=by omega
   generalize l[(i+j) / 2]=p at *;generalize hmm: (i+j) / 2=m at *;have h3:=call_Compare p t B hmp ht;have hw1:IntKind.i64.wrap ((m:Int)+1)=((m+1:Nat):Int):=by rw[Zg (by omega) (by omega)];omega
   rw[Qe f378l0.eq_1];by_cases cc1:Qp p t < 0
   ·have hmn2:m+1<=n:=by
     rcases Jd m n with h | h | h
     ·omega
     ·subst h;rw[hp]at hn;injection hn with hn;subst hn
      have:Qp p p=0:=(Wg).2 rfl;omega
     ·exact absurd (Xo cc1 (ord n m t p hn hp h)) (by have:Qp p p=0:=(Wg).2 rfl;omega)
    have ih:=fun o ρ=>IH (m+1) j o ρ (by omega) hmn2 hnj hj;simp[-getElem?_pos,h0,h2,h4,h8,h9,h10,hltI,hw,hw1,hp,h3,cc1];refine ih o _ ?_ ?_ ?_ ?_ ?_ ?_ <;> simp[h0,h2,h4,h8,h10]
   ·have hmn2:n<=m:=by
     rcases QT m n with h | h
     ·exact absurd (ord m n p t hp hn h) cc1
     ·exact h
    have ih:=fun o ρ=>IH i m o ρ (by omega) hin hmn2 (by omega);simp[-getElem?_pos,h0,h2,h4,h8,h9,h10,hltI,hw,hw1,hp,h3,cc1];refine ih o _ ?_ ?_ ?_ ?_ ?_ ?_ <;> simp[h0,h2,h4,h8,h9]
  ·have e1:i=n:=by omega
   have e2:j=n:=by omega
   subst e1 e2;exact base o ρ h0 h4 h2 h8 h9 h10
def BA {l:Qc} {t:Tm} {B:Qa} (o:Bool) (hl:l.length < 100000000) (hm: ∀p∈l,p.mass < big) (ht:t.mass < big) (ha:Asc l) {n:Nat} (hn:l[n]? =some t):
  call tb 378 [.sl o 4 (Qb l),.agg (Qf t),.fn 30 []] B=some (.tup [.int .i64 n,.bool true],B):=by
 have hnl:n < l.length:=(WD.1 hn).1;have h:=fun ρ=>QgT (B:=B) hl hm ht ha hn l.length 0 l.length false ρ (by omega) (by omega) (by omega) (by omega);rw[zcc 378 rfl rfl];simp[-getElem?_pos,f378C];refine h _ ?_ ?_ ?_ ?_ ?_ ?_ <;> simp
def VF (l:List Qk):Qc:=(l.map QZ).flatten
def Xt (l:List Qk):Qc:=Zz (VF l)
def MO (g:Qk) (a:List Qk):VF (g:: a)=QZ g ++ VF a:=by simp[VF]
def Qf8 {l:List Qk} {g:Qk} {q:Pw} (hg:g∈l) (hq:q∈g):q.1∈VF l:=by
 simp only[VF,MB,XN];exact⟨QZ g,⟨g,hg,rfl⟩,XN.2 ⟨q,hq,rfl⟩⟩
def Qe7 {l:List Qk} {t:Tm} (h:t∈VF l): ∃g∈l,∃q∈g,q.1=t:=by
 simp only[VF,MB,XN]at h;obtain⟨ks,⟨g,hg,rfl⟩,ht⟩:=h;obtain⟨q,hq,rfl⟩:=XN.1 ht;exact⟨g,hg,q,hq,rfl⟩
def Qiq (x y:Tm) (bs:Qa) (hx:x.mass < big) (hy:y.mass < big):call tb 375 [.agg (Qf x),.agg (Qf y)] bs=some (.bool (decide (Qp x y=0)),bs):=by
 have h:=call_Compare x y bs hx hy;rw[zcc 375 rfl rfl];simp[f375C,h]
def QnR:EqF 375:=fun x y bs hx hy=>Qiq x y bs hx hy
def Qpt {B0 B:Qa} {v:AV} {l:Qc} (h:TS B0 B v l) (hl:l.length < 1000000) (hm: ∀x∈l,x.mass < 1000000) (ρ:Ql) (h3:ρ 3=v):
  R tb f373r1 ρ B (QK f373 B0)=some (.sl true 4 (Qb (Zz l)),B0):=by
 obtain⟨M,id,sz,rfl,rfl,hc⟩:=h;have hg:=Y8 (Zz l);rcases hc with⟨rfl,rfl,rfl⟩ | ⟨rfl,hid,hne,hb⟩
 ·have hs:call tb 170 [.gs 0 0 0 0,.fn 30 []] (B0 ++ M)=some (.tup [],B0 ++ M):=by rw[Wy tb_170];simp[NV]
  have hc:=Qfi 375 (B0 ++ M);have e:Zz []=([]:Qc):=rfl;simp[f373r1,h3,hs,hc,Qb,e,YD]
 ·have hmb: ∀x∈l,x.mass < big:=fun x hx=>by have:=hm x hx;unfold big;omega
  have hs:=I4 l (B0 ++ M) id hb (by omega) hmb;have hB:=Wv hb;have hS: ((B0 ++ M).set id (Qr (Xe l)))[id]? =some (Qr (Xe l)):=by rw[Xh,Qn rfl,Qn hB]
  have hsne:Xe l≠[]:=by
   intro e;obtain⟨x,hx⟩:=Qc9 l hne;have:=(RB (l:=l)).2 hx;rw[e]at this;simp at this
  have hc:=Qix 375 QnR (Xe l) ((B0 ++ M).set id (Qr (Xe l))) id hS hsne (by rw[Tc];omega) fun x hx=>hmb x (RB.1 hx);rw[LU,Tc]at hc;unfold LC at hc;rw[OS]at hc;simp only[XX hid]at hs hc;simp[-getElem?_pos,f373r1,h3,hs,hc,hg,YD]
def Qpr (g:Qk) (B0:Qa) (hg:SmP g) (c:AC) (K:Kn) (X:Out):
  ∀(post pre:Qk) (acc:Qc) (B:Qa) (v:AV) (o:Bool) (ρ:Ql),g=pre ++ post->TS B0 B v acc->acc.length+post.length < 500000->
   ρ 3=v->ρ 14= .sl o 5 (QC g)->ρ 15= .int .i64 g.length->ρ 16= .int .i64 pre.length->
   (∀(ρ':Ql) (v':AV) (B':Qa),TS B0 B' v' (acc ++ QZ post)->ρ' 3=v'->ρ' 8=ρ 8->ρ' 9=ρ 9->ρ' 10=ρ 10->R tb c ρ' B' K=X)->
  R tb (.loop f373l0) ρ B (Qq 2 (Qq 1 (QI tb c K)))=X:=by
 intro post
 induction post with
 | nil=>
  intro pre acc B v o ρ hk hts hal h3 h14 h15 h16 H;simp only[QF]at hk;rw[<- hk]at h16;obtain⟨id,sz,rfl⟩:=Gl hts;rw[Qe f373l0.eq_1];simp[h3,h14,h15,h16];refine H _ _ _ (by simpa[QZ]using hts) ?_ ?_ ?_ ?_ <;> simp[h3]
 | cons q post IH=>
  intro pre acc B v o ρ hk hts hal h3 h14 h15 h16 H;have hgt:=Qx hk;have hll:=QE hk;have hw1:IntKind.i64.wrap ((pre.length:Int)+1)=(pre.length:Int)+1:=Zg (by have:=hg.1;omega) (by have:=hg.1;omega);have hlt:=QG hk;simp only[ZM]at hal;obtain⟨v2,B2,q1,q2,q3⟩:=Qkv q.1 false hts (by omega);have ih:=fun ρ=>IH (pre ++ [q]) (acc ++ [q.1]) B2 v2 o ρ (by rw[hk];simp) q2 (by simp;omega);obtain⟨id,sz,rfl⟩:=Gl hts;obtain⟨id2,sz2,rfl⟩:=Gl q2;rw[Qe f373l0.eq_1];simp[-List.append_assoc,h3,h14,h15,h16,hlt,hgt,hw1,q1];refine ih _ ?_ ?_ ?_ ?_ ?_
  ·simp
  ·simp[h14]
  ·simp[h15]
  ·simp
  ·intro ρ' v' B' g1 g3 g8 g9 g10;refine H ρ' v' B' (by simpa[QZ]using g1) g3 ?_ ?_ ?_
   ·rw[g8];simp
   ·rw[g9];simp
   ·rw[g10];simp
def Qps (l:List Qk) (B0:Qa) (hl:l.length < 1000) (hs: ∀g∈l,SmP g/\g.length<=200):
  ∀(post pre:List Qk) (acc:Qc) (B:Qa) (v:AV) (o:Bool) (ρ:Ql),l=pre ++ post->TS B0 B v acc->acc.length+200*post.length<=200*l.length->(∀x∈acc,x.mass < 1000000)->
   ρ 3=v->ρ 8= .sl o 1 (ZD l)->ρ 9= .int .i64 l.length->ρ 10= .int .i64 pre.length->
  R tb (.loop f373l1) ρ B (Qq 0 (QI tb f373r1 (QK f373 B0)))=some (.sl true 4 (Qb (Zz (acc ++ VF post))),B0):=by
 intro post
 induction post with
 | nil=>
  intro pre acc B v o ρ hk hts hal ham h3 h8 h9 h10;simp only[QF]at hk;rw[<- hk]at h10;have h:=fun ρ h3=>Qpt hts (by simp at hal;omega) ham ρ h3;have e:acc ++ VF []=acc:=by simp[VF]
  rw[Qe f373l1.eq_1,e];simp[h3,h8,h9,h10];apply h;simp[h3]
 | cons g post IH=>
  intro pre acc B v o ρ hk hts hal ham h3 h8 h9 h10;have hgt:=Qx hk;have hll:=QE hk;have hw1:=wr1 pre.length (by omega);have hlt:=QG hk;obtain⟨hsg,hg2⟩:=hs g (by rw[hk];simp);simp only[ZM]at hal;have hpl: (QZ g).length=g.length:=by simp[QZ]
  have ih:=fun B v ρ hts=>IH (pre ++ [g]) (acc ++ QZ g) B v o ρ (by rw[hk];simp) hts (by rw[Zc,hpl];omega) (fun x hx=>by
   rcases YU.1 hx with hx | hx
   ·exact ham x hx
   ·obtain⟨q,hq,rfl⟩:=XN.1 hx;exact hsg.2 q hq)
  have e:acc ++ VF (g:: post)=(acc ++ QZ g)++ VF post:=by rw[MO,ZW]
  have h:=fun o ρ c K X=>Qpr g B0 hsg c K X g [] acc B v o ρ rfl hts (by omega);rw[e,Qe f373l1.eq_1];simp[-List.append_assoc,h3,h8,h9,h10,hlt,hgt];refine h false _ _ _ _ ?_ ?_ ?_ ?_ ?_
  ·simp[h3]
  ·simp
  ·simp
  ·simp
  ·intro ρ' v' B' g1 g3 g8 g9 g10;obtain⟨id2,sz2,rfl⟩:=Gl g1;simp[-List.append_assoc,f373r0,g10,h10,hw1];refine ih B' _ _ g1 ?_ ?_ ?_ ?_
   ·simp[g3]
   ·simp[g8,h8]
   ·simp[g9,h9]
   ·simp
def Qip (l:List Qk) (o:Bool) (B0:Qa) (hl:l.length < 1000) (hs: ∀g∈l,SmP g/\g.length<=200):
  call tb 373 [.sl o 1 (ZD l)] B0=some (.sl true 4 (Qb (Xt l)),B0):=by
 have h:=fun o ρ=>Qps l B0 hl hs l [] [] B0 (.gs 0 0 0 0) o ρ rfl (QoS B0) (by simp) (by simp);rw[zcc 373 rfl rfl];simp only[XD]at h;unfold Xt;generalize Qb (Zz (VF l))=E1 at *;simp[f373C];refine h false _ ?_ ?_ ?_ ?_ <;> simp
def pwT:Qk->Tm->Int
 | [],_=>0
 | q:: g,t=>if Qp q.1 t=0 then q.2 else pwT g t
def Qd8: ∀{g:Qk} {q:Pw} {t:Tm},Qp q.1 t≠0->pwT (g ++ [q]) t=pwT g t
 | [],q,t,h=>by simp[pwT,h]
 | p:: g,q,t,h=>by simp only[Ws,pwT,Qd8 h]
def Qd7: ∀{g:Qk} {q:Pw},(∀p∈g,Qp p.1 q.1≠0)->pwT (g ++ [q]) q.1=q.2
 | [],q,_=>by simp[pwT,Wg.2 rfl]
 | p:: g,q,h=>by
  have h1:=h p (by simp);have h2:=Qd7 (g:=g) (q:=q) fun x hx=>h x (by simp[hx]);simp only[Ws,pwT,Qm h1,h2]
def Zr (l:Zf):Qh:=l.map fun i=>AV.int .i64 i
@[simp] def DW (l:Zf): (Zr l).length=l.length:=by simp[Zr]
@[simp] def DV (l:Zf) (i:Nat): (Zr l)[i]? =(l[i]?).map fun i=>AV.int .i64 i:=by simp[Zr]
@[simp] def Qp9 (l:Zf): (Zr l).map AV.strip=Zr l:=by
 simp only[Zr,ML];exact OM fun i _=>rfl
def KD (l:Zf) {n:Nat} (v:Int) (h:n < l.length): (Zr l).take n ++ AV.int .i64 v:: (Zr l).drop (n+1)=Zr (l.set n v):=by
 rw[List.set_eq_take_append_cons_drop,Qn h];simp[Zr]
def Qec (l:Zf):Zr l=YB (fun i:Int=>[AV.int .i64 i]) l:=by
 induction l with
 | nil=>rfl
 | cons a l ih=>
  rw[Tb,<- ih];rfl
def CU (l:Zf):Yb (Zr l) 0 1 l.length=Xu l:=by
 have h:=XP (f:=fun i:Int=>[AV.int .i64 i]) (k:=1) (fun _=>rfl) (fun _=>rfl) l [];rw[QF,<- Qec]at h;exact h
def DX (n:Nat) (l:Qc) (h:l.length=n):List.replicate n (AV.int .i64 0)=Zr (l.map (pwT [])):=by
 subst h;simp only[Zr,ML]
 induction l with
 | nil=>rfl
 | cons a l ih=>simp only[ZM,Mx,Ya,ih];rfl
def Aj {cols:Qc} {pre:Qk} {q:Pw} {n:Nat} (ha:Asc cols) (hn:cols[n]? =some q.1) (hp: ∀p∈pre,Qp p.1 q.1≠0):
  (cols.map (pwT pre)).set n q.2=cols.map (pwT (pre ++ [q])):=by
 apply Si;intro i;rw[Xh,W0,W0];have hnl:n < cols.length:=(WD.1 hn).1;by_cases c:n=i
 ·subst c;rw[Qn rfl,Qn (by simpa using hnl),hn];simp[Qd7 hp]
 ·rw[Qm c];cases hi:cols[i]? with
  | none=>rfl
  | some t=>
   have hne:Qp q.1 t≠0:=by
    intro e;have e2:=(Wg).1 e;obtain⟨h1,rfl⟩:=WD.1 hi;obtain⟨h2,e3⟩:=WD.1 hn;rw[<- e3]at e2;rcases QT n i with h | h
    ·have:=Pi.1 ha n i h2 h1 h;rw[e2,Wg.2 rfl]at this;omega
    ·have:=Pi.1 ha i n h1 h2 (by omega);rw[e2,Wg.2 rfl]at this;omega
   simp[Qd8 hne]
def Qde {pre post:Qk} {q:Pw} (h:Asc (QZ (pre ++ q:: post))): ∀p∈pre,Qp p.1 q.1≠0:=by
 intro p hp;simp only[QZ,Ti,Ya]at h;have:=(List.pairwise_append.1 h).2.2 p.1 (XN.2 ⟨p,hp,rfl⟩) q.1 (by simp);omega
def Qno (l:Zf) (bs:Qa) (r:Out):Prop:=∃o,r=some (.sl o 1 (Xu l),bs)
def Mu:=@List.set_append_right
def Qp1 (cols:Qc) (g:Qk) (B0:Qa) (hcl:cols.length < 1000000) (hcm: ∀t∈cols,t.mass < 1000000) (ha:Asc cols) (hg:SmP g) (hga:Asc (QZ g)) (hin: ∀q∈g,q.1∈cols):
  ∀(post pre:Qk) (o o2:Bool) (ρ:Ql),g=pre ++ post->ρ 0= .sl o 4 (Qb cols)->ρ 5= .gs B0.length 0 1 cols.length->ρ 13= .sl o2 5 (QC g)->ρ 14= .int .i64 g.length->ρ 15= .int .i64 pre.length->
  Qno (cols.map (pwT g)) B0 (R tb (.loop f377l0) ρ (B0 ++ [Zr (cols.map (pwT pre))]) (Qq 0 (QI tb f377r0 (QK f377 B0)))):=by
 intro post
 induction post with
 | nil=>
  intro pre o o2 ρ hk h0 h5 h13 h14 h15;simp only[QF]at hk;subst hk;have hch:=CU (cols.map (pwT g));rw[WH]at hch;by_cases c:cols.length=0
  ·have:cols=[]:=Y2 c;subst this;refine⟨false,?_⟩;rw[Qe f377l0.eq_1];simp at h5;simp[h0,h5,h13,h14,h15,f377r0,Yk,Xu]
  ·refine⟨true,?_⟩;have hgp:=BP (cols.map (pwT g));have hB: (B0 ++ [Zr (cols.map (pwT g))])[B0.length]? =some (Zr (cols.map (pwT g))):=Yu;have hrl: (Zr (cols.map (pwT g))).length=cols.length:=by simp
   generalize Zr (cols.map (pwT g))=RR at *;generalize Xu (cols.map (pwT g))=EE at *;rw[Qe f377l0.eq_1];simp[-getElem?_pos,h0,h5,h13,h14,h15,f377r0,Yk,c,hB,hrl,hch,hgp]
 | cons q post IH=>
  intro pre o o2 ρ hk h0 h5 h13 h14 h15;have hgt:=Qx hk;have hll:=QE hk;have hgl:=hg.1;have hw1:=wr1 pre.length (by omega);have hlt:=QG hk;have hq:q∈g:=by rw[hk];simp
  obtain⟨n,hn⟩:=TH (hin q hq);have hnl:n < cols.length:=(WD.1 hn).1;have hbs:=fun o B=>BA (l:=cols) (t:=q.1) (B:=B) o (by omega) (fun p hp=>by have:=hcm p hp;unfold big;omega) (hg.big q hq) ha hn;have hst:=Aj ha hn (Qde (by rw[<- hk];exact hga));have hput:=KD (cols.map (pwT pre)) q.2 (n:=n) (by simpa using hnl);rw[hst]at hput;have hB: (B0 ++ [Zr (cols.map (pwT pre))])[B0.length]? =some (Zr (cols.map (pwT pre))):=Yu;have hrl: (Zr (cols.map (pwT pre))).length=cols.length:=by simp
  have hset: ∀x,(B0 ++ [Zr (cols.map (pwT pre))]).set B0.length x=B0 ++ [x]:=fun x=>by rw[Mu _ _ (Zx _)];simp
  have ih:=fun ρ=>IH (pre ++ [q]) o o2 ρ (by rw[hk];simp);generalize Zr (cols.map (pwT pre))=RR at *;generalize Zr (cols.map (pwT (pre ++ [q])))=R2 at *;have hn1:n+1<=cols.length:=hnl;have hnI: (n:Int) < (cols.length:Int):=by omega
  rw[Qe f377l0.eq_1];simp[-getElem?_pos,Q8,Yf,YT,h0,h5,h13,h14,h15,hlt,hgt,hw1,hbs,hnl,hn1,hnI,hB,hrl,hput,hset];apply ih <;> simp[h0,h5,h13,h14]
def Qir (cols:Qc) (g:Qk) (o o2:Bool) (B0:Qa) (hcl:cols.length < 1000000) (hcm: ∀t∈cols,t.mass < 1000000) (ha:Asc cols) (hg:SmP g) (hga:Asc (QZ g)) (hin: ∀q∈g,q.1∈cols):
  Qno (cols.map (pwT g)) B0 (call tb 377 [.sl o 4 (Qb cols),.sl o2 5 (QC g)] B0):=by
 have h:=fun ρ=>Qp1 cols g B0 hcl hcm ha hg hga hin g [] false false ρ rfl;have hr:=DX cols.length cols rfl;have e8:cols.length*8<=140737488355328:=by omega
 have e4: (cols.length:Int)<=4611686018427387904:=by omega
 rw[zcc 377 rfl rfl];rw[<- hr]at h;generalize cols.map (pwT g)=EE at *;simp[f377C,e8,e4];apply h <;> simp
def QoG (cols:Qc) (g:Qk) (B0:Qa) (hcl:cols.length < 1000000) (hcm: ∀t∈cols,t.mass < 1000000) (ha:Asc cols) (hg:SmP g) (hga:Asc (QZ g)) (hin: ∀q∈g,q.1∈cols):
  ∀(post pre:Qk) (o o2:Bool) (ρ:Ql),g=pre ++ post->ρ 0= .sl o 4 (Qb cols)->ρ 5= .gs B0.length 0 1 cols.length->ρ 13= .sl o2 5 (QC g)->ρ 14= .int .i64 g.length->ρ 15= .int .i64 pre.length->
  R tb (.loop f563l0) ρ (B0 ++ [Zr (cols.map (pwT pre))]) (Qq 0 (QI tb f563r0 (QK f563 B0)))=some (.gs B0.length 0 1 cols.length,B0 ++ [Zr (cols.map (pwT g))]):=by
 intro post
 induction post with
 | nil=>
  intro pre o o2 ρ hk h0 h5 h13 h14 h15;simp only[QF]at hk;subst hk;rw[Qe f563l0.eq_1];simp[h0,h5,h13,h14,h15,f563r0]
 | cons q post IH=>
  intro pre o o2 ρ hk h0 h5 h13 h14 h15;have hgt:=Qx hk;have hll:=QE hk;have hgl:=hg.1;have hw1:=wr1 pre.length (by omega);have hlt:=QG hk;have hq:q∈g:=by rw[hk];simp
  obtain⟨n,hn⟩:=TH (hin q hq);have hnl:n < cols.length:=(WD.1 hn).1;have hbs:=fun o B=>BA (l:=cols) (t:=q.1) (B:=B) o (by omega) (fun p hp=>by have:=hcm p hp;unfold big;omega) (hg.big q hq) ha hn;have hst:=Aj ha hn (Qde (by rw[<- hk];exact hga));have hput:=KD (cols.map (pwT pre)) q.2 (n:=n) (by simpa using hnl);rw[hst]at hput;have hB: (B0 ++ [Zr (cols.map (pwT pre))])[B0.length]? =some (Zr (cols.map (pwT pre))):=Yu;have hrl: (Zr (cols.map (pwT pre))).length=cols.length:=by simp
  have hset: ∀x,(B0 ++ [Zr (cols.map (pwT pre))]).set B0.length x=B0 ++ [x]:=fun x=>by rw[Mu _ _ (Zx _)];simp
  have ih:=fun ρ=>IH (pre ++ [q]) o o2 ρ (by rw[hk];simp);generalize Zr (cols.map (pwT pre))=RR at *;generalize Zr (cols.map (pwT (pre ++ [q])))=R2 at *;generalize Zr (cols.map (pwT g))=R3 at *;have hn1:n+1<=cols.length:=hnl;have hnI: (n:Int) < (cols.length:Int):=by omega
  rw[Qe f563l0.eq_1];simp[-getElem?_pos,Q8,Yf,YT,h0,h5,h13,h14,h15,hlt,hgt,hw1,hbs,hnl,hn1,hnI,hB,hrl,hput,hset];apply ih <;> simp[h0,h5,h13,h14]
def QiG (cols:Qc) (g:Qk) (o o2:Bool) (B0:Qa) (hcl:cols.length < 1000000) (hcm: ∀t∈cols,t.mass < 1000000) (ha:Asc cols) (hg:SmP g) (hga:Asc (QZ g)) (hin: ∀q∈g,q.1∈cols):
  call tb 563 [.sl o 4 (Qb cols),.sl o2 5 (QC g)] B0=some (.gs B0.length 0 1 cols.length,B0 ++ [Zr (cols.map (pwT g))]):=by
 have h:=fun ρ=>QoG cols g B0 hcl hcm ha hg hga hin g [] false false ρ rfl;have hr:=DX cols.length cols rfl;have e8:cols.length*8<=140737488355328:=by omega
 have e4: (cols.length:Int)<=4611686018427387904:=by omega
 rw[zcc 563 rfl rfl];rw[<- hr]at h;generalize Zr (cols.map (pwT g))=EE at *;simp[f563C,e8,e4];apply h <;> simp
def nz (i:Int):Bool:= !decide (i=0)
def QiH (i:Int) (bs:Qa):call tb 598 [.int .i64 i] bs=some (.bool (nz i),bs):=by
 rw[zcc 598 rfl rfl];unfold nz;by_cases h:i=0
 ·simp[f598C,h]
 ·simp[f598C,h]
def Qf6 (l:Zf) (id:Nat) (B:Qa) (hB:B[id]? =some (Zr l)) (hl:l.length < 1000000):
  ∀(post pre:Zf) (ρ:Ql),l=pre ++ post->pre.any nz=false->ρ 0= .gs id 0 1 l.length->ρ 1= .fn 598 []->ρ 7= .int .i64 l.length->ρ 8= .int .i64 pre.length->
  RG (l.any nz) B (R tb (.loop f600l0) ρ B (Qq 0 (QI tb f600r0 (QK f600 B)))):=by
 intro post
 induction post with
 | nil=>
  intro pre ρ hk hp h0 h1 h7 h8;simp only[QF]at hk;rw[<- hk]at h8 hp;rw[Qe f600l0.eq_1];refine⟨-1,?_,by rw[hp];simp⟩;simp[h0,h1,h7,h8,f600r0]
 | cons x post IH=>
  intro pre ρ hk hp h0 h1 h7 h8;have hgt:=Qx hk;have hll:=QE hk;have hw1:=wr1 pre.length (by omega);have hlt:=QG hk;have hltN:pre.length < l.length:=by omega
  have hlt1:pre.length+1<=l.length:=by omega
  have hcall:=QiH x B;have hrd: (Zr l)[pre.length]? =some (.int .i64 x):=by rw[DV,hgt];rfl
  have hrl:=DW l;have ih:=fun ρ hpp=>IH (pre ++ [x]) ρ (by rw[hk];simp) hpp;generalize Zr l=RR at *;rw[Qe f600l0.eq_1];cases ho:nz x
  ·rw[ho]at hcall;have ih2:=fun ρ=>ih ρ (by rw[Sl,hp];simp[ho]);simp[-getElem?_pos,Q8,h0,h1,h7,h8,hlt,hltN,hlt1,hB,hrd,hrl,hw1,hcall,-List.any_eq_false,-List.any_eq_true];apply ih2 <;> simp[h0,h1,h7]
  ·rw[ho]at hcall;have hany:l.any nz=true:=UD.2 ⟨x,by rw[hk];simp,ho⟩;refine⟨pre.length,?_,by rw[hany];simp⟩;simp[-getElem?_pos,Q8,h0,h1,h7,h8,hlt,hltN,hlt1,hB,hrd,hrl,hcall]
def QiI (l:Zf) (id:Nat) (B:Qa) (hB:B[id]? =some (Zr l)) (hl:l.length < 1000000):
  call tb 599 [.gs id 0 1 l.length,.fn 598 []] B=some (.bool (l.any nz),B):=by
 have h1:=fun ρ=>Qf6 l id B hB hl l [] ρ rfl rfl;have h2:RG (l.any nz) B (call tb 600 [.gs id 0 1 l.length,.fn 598 []] B):=by
  rw[zcc 600 rfl rfl];simp[f600C,-List.any_eq_false,-List.any_eq_true];apply h1 <;> simp
 obtain⟨i,hi,hb⟩:=h2;rw[zcc 599 rfl rfl];simp[f599C,hi,-List.any_eq_false,-List.any_eq_true];cases hx:l.any nz
 ·rw[hx]at hb;simp at hb;simpa using hb
 ·rw[hx]at hb;simp at hb;simpa using hb
def Yh:Zf->List Qk->Tm->Int
 | c:: cs,g:: gs,t=>c*pwT g t+Yh cs gs t
 | _,_,_=>0
def M6: ∀{cs:Zf} {gs:List Qk} (c:Int) (g:Qk) (t:Tm),cs.length=gs.length->Yh (cs ++ [c]) (gs ++ [g]) t=Yh cs gs t+c*pwT g t
 | [],[],c,g,t,_=>by simp[Yh]
 | a:: cs,b:: gs,c,g,t,h=>by
  have:=M6 (cs:=cs) (gs:=gs) c g t (by simpa using h);simp only[Ws,Yh,this];omega
def DD {c p:Int} (hc:c.natAbs<=35184372088832) (hp:p.natAbs<=1000): (c*p).natAbs<=35184372088832000:=by
 rw[Int.natAbs_mul];exact VL (Em hc hp) (by decide)
def okG (g:Qk):Prop:=Z0 g=0/\SmP g
def okG.asc {g:Qk} (h:okG g):Asc (QZ g):=(UB h.1 h.2.big).1.asc
def okG.bd {g:Qk} (h:okG g): ∀q∈g,-1000<=q.2/\q.2<=1000:=fun q hq=>by
 have h1:=h.1;unfold Z0 at h1;split at h1
 ·cases h1
 ·exact⟨((Ie g none h1).1 q hq).2.2.2.1,((Ie g none h1).1 q hq).2.2.2.2⟩
def okG.len {g:Qk} (h:okG g):g.length<=200:=(UB h.1 h.2.big).2.1
def J1: ∀{g:Qk} {t:Tm},(∀q∈g,-1000<=q.2/\q.2<=1000)->(pwT g t).natAbs<=1000
 | [],t,_=>by simp[pwT]
 | q:: g,t,h=>by
  have h1:=h q (by simp);have h2:=J1 (g:=g) (t:=t) fun x hx=>h x (by simp[hx]);simp only[pwT];split
  ·omega
  ·exact h2
def II {c:Int} (h:Yr c=false):c.natAbs<=35184372088832:=by
 simp[Yr]at h;omega
def E6: ∀{cs:Zf} {gs:List Qk} {t:Tm},(∀c∈cs,Yr c=false)->(∀g∈gs,okG g)->(Yh cs gs t).natAbs<=gs.length*35184372088832000
 | [],gs,t,_,_=>by cases gs <;> simp[Yh]
 | c:: cs,[],t,_,_=>by simp[Yh]
 | c:: cs,g:: gs,t,h1,h2=>by
  have a:=E6 (cs:=cs) (gs:=gs) (t:=t) (fun x hx=>h1 x (by simp[hx])) (fun x hx=>h2 x (by simp[hx]));have b:=DD (II (h1 c (by simp))) (J1 (t:=t) (h2 g (by simp)).bd);simp only[Yh,ZM,VA];omega
def Qpp (cols:Qc) (g:Qk) (ci:Int) (cs:Zf) (i:Nat) (B0:Qa) (f:Tm->Int) (hcl:cols.length < 1000000) (hc:cs[i]? =some ci) (hm: ∀t,IntKind.i64.wrap (ci*pwT g t)=ci*pwT g t) (hs: ∀t,IntKind.i64.wrap (f t - ci*pwT g t)=f t - ci*pwT g t) (c:AC) (K:Kn) (X:Out):
  ∀(post pre:Qc) (o o2:Bool) (ρ:Ql),cols=pre ++ post->ρ 2= .sl o 1 (Xu cs)->ρ 8= .gs B0.length 0 1 cols.length->ρ 9= .int .i64 i->ρ 54= .sl o2 1 (Xu (cols.map (pwT g)))->ρ 55= .int .i64 cols.length->ρ 56= .int .i64 pre.length->
   (∀ρ':Ql,(∀j,j < 11->ρ' j=ρ j)->ρ' 45=ρ 45->ρ' 46=ρ 46->ρ' 47=ρ 47->R tb c ρ' (B0 ++ [Zr (cols.map fun t=>f t - ci*pwT g t)]) K=X)->
  R tb (.loop f367l0) ρ (B0 ++ [Zr ((pre.map fun t=>f t - ci*pwT g t)++ post.map f)]) (Qq 2 (Qq 1 (QI tb c K)))=X:=by
 intro post
 induction post with
 | nil=>
  intro pre o o2 ρ hk h2 h8 h9 h54 h55 h56 H;simp only[QF]at hk;subst hk;simp only[X4,QF];generalize Zr (cols.map fun t=>f t - ci*pwT g t)=RR at *;rw[Qe f367l0.eq_1];simp[h2,h8,h9,h54,h55,h56];refine H _ ?_ ?_ ?_ ?_
  ·intro j hj;have:j≠57:=by omega
   simp[this]
  ·simp
  ·simp
  ·simp
 | cons t post IH=>
  intro pre o o2 ρ hk h2 h8 h9 h54 h55 h56 H;have hgt:=Qx hk;have hll:=QE hk;have hw1:=wr1 pre.length (by omega);have hlt:=QG hk;have hltN:pre.length < cols.length:=by omega
  have hlt1:pre.length+1<=cols.length:=by omega
  have hm':=hm t;have hs':=hs t;have hrl: (Zr ((pre.map fun t=>f t - ci*pwT g t)++ (t:: post).map f)).length=cols.length:=by simp;omega
  have hrd: (Zr ((pre.map fun t=>f t - ci*pwT g t)++ (t:: post).map f))[pre.length]? =some (.int .i64 (f t)):=by
   rw[DV,Xc (by simp)];simp
  have hput:=KD ((pre.map fun t=>f t - ci*pwT g t)++ (t:: post).map f) (n:=pre.length) (f t - ci*pwT g t) (by simp);have hst: ((pre.map fun t=>f t - ci*pwT g t)++ (t:: post).map f).set pre.length (f t - ci*pwT g t)=((pre ++ [t]).map fun t=>f t - ci*pwT g t)++ post.map f:=by
   rw[Mu _ _ (by simp)];simp
  rw[hst]at hput;have hB: ∀x:Qh,(B0 ++ [x])[B0.length]? =some x:=fun x=>Yu;have hset: ∀x y:Qh,(B0 ++ [x]).set B0.length y=B0 ++ [y]:=fun x y=>by rw[Mu _ _ (Zx _)];simp
  have ih:=fun ρ=>IH (pre ++ [t]) o o2 ρ (by rw[hk];simp);generalize Zr ((pre.map fun t=>f t - ci*pwT g t)++ (t:: post).map f)=RR at *;generalize Zr (((pre ++ [t]).map fun t=>f t - ci*pwT g t)++ post.map f)=R2 at *;generalize Zr (cols.map fun t=>f t - ci*pwT g t)=R3 at *;generalize f t=ft at *;have hgm: (cols.map (pwT g))[pre.length]? =some (pwT g t):=by rw[W0,hgt];rfl
  generalize cols.map (pwT g)=PP at *;generalize pwT g t=pt at *;rw[Qe f367l0.eq_1];simp[-getElem?_pos,Q8,Yf,YT,h2,h8,h9,h54,h55,h56,hlt,hltN,hlt1,hw1,hgm,hc,hB,hrl,hrd,hm',hs',hput,hset];refine ih _ ?_ ?_ ?_ ?_ ?_ ?_ ?_
  ·simp[h2]
  ·simp[h8]
  ·simp[h9]
  ·simp[h54]
  ·simp[h55]
  ·simp
  ·intro ρ' gj g45 g46 g47;refine H ρ' (fun j hj=> ?_) ?_ ?_ ?_
   ·rw[gj j hj];have e1:j≠11:=by omega
    have e2:j≠12:=by omega
    have e3: ¬(56<=j):=by omega
    simp[e1,e2,show j≠56 by omega,show j≠57 by omega,show j≠58 by omega,show j≠59 by omega,show j≠60 by omega,show j≠61 by omega,show j≠62 by omega,show j≠63 by omega,show j≠64 by omega,show j≠65 by omega,show j≠66 by omega,show j≠67 by omega,show j≠68 by omega,show j≠69 by omega,show j≠70 by omega,show j≠71 by omega,show j≠72 by omega,show j≠73 by omega]
   ·rw[g45];simp
   ·rw[g46];simp
   ·rw[g47];simp
end Go.Am
