/-
  Pf2, Pf3, Pf4, Kn52, Kn53, Kn54, Kn55, Kn56, Kn57, Kn58, Kn59, Kn60, Kn19, Kn21, Kn61, Kn62, Kn63, Kn64, Kn65, Kn66, Rc43, Rc44, Rc45, Kn67, Kn68, Kn40, Kn41, Kn42, Kn43, Kn44, Kn69, Kn70, Kn71, Kn72, Kn73, Kn74, Pf5, Pf6, Pf9, Pf10, Pf11, Pf12, Pf13, Pf8, Pf14, Pf15, Pf7, Pf16, Pf17, Pf18, AmMemo.
-/
import Derived.Test.YtmlbijpbecpjoaaGreatDoorG23
import Derived.Test.YtmlbijpbecpjoaaGreatDoorG20
import Derived.Test.YtmlbijpbecpjoaaGreatDoorG22
import Derived.Test.YtmlbijpbecpjoaaGreatDoorG15
import Derived.KernelRfl
set_option linter.all false
open Go.Am.F
namespace Go.Am
set_option maxRecDepth 20000
def Ko (a b:QJ):Q2 (a ++ b)=Q2 a ++ Q2 b:=by simp[Q2]
def QfG (D:QJ) (t:Qh):ZX (Q2 D ++ t) 0 1 D.length=Q7 D:=by
 apply UQ;intro i;simp only[ZX,Zk,Rp,Wb,Q7];by_cases h:i < D.length
 ·rw[OE h,Zv h];have h1: (Q2 D ++ t)[i]? =some (.int .i64 D[i]):=by
   rw[ZM (by rw[TO];exact h)];simp[Q2,h]
  have h2: ((Q2 D ++ t).drop i).take 1=[.int .i64 D[i]]:=by
   have hl:i < (Q2 D ++ t).length:=by simp[Q2];omega
   rw[KF hl];rw[Zv hl]at h1;injection h1 with h1
   rw[h1];rfl
  simp only[QS,h2];rfl
 ·rw[Q3 (by simpa using h),Q3 (by simpa using h)];rfl
def Hd {l pre post:QJ} {x:Int} (y:Int) (h:l=pre ++ x:: post): (Q2 l).take pre.length ++ (.int .i64 y:: (Q2 l).drop (pre.length+1))=Q2 (pre ++ y:: post):=by
 subst h;have h1: (Q2 (pre ++ x:: post)).take pre.length=Q2 pre:=by
  rw[Ko,Pb (by rw[TO];exact ZJ _),Yy (by rw[TO];exact ZJ _)]
 have h2: (Q2 (pre ++ x:: post)).drop (pre.length+1)=Q2 post:=by
  rw[show pre ++ x:: post=(pre ++ [x])++ post by simp,Ko,List.drop_append_of_le_length (by rw[TO];simp),Mh (by rw[TO];simp)];rfl
 rw[h1,h2,Ko];rfl
def Qpb (rs:Xz):Qh:=rs.map fun r=>AV.sl false 1 (Q7 r)
def usB (us:X9):Qh:=us.map AV.bool
structure EJ (B0 B:List (List AV)) (rs:List (List Int)) (us:List Bool) (piv:List Int) (idr idu:Nat) (pv:AV):Prop where
 hr:B[idr]? =some (Qpb rs)
 hu:B[idu]? =some (usB us)
 hp:IS B0 B pv piv
 n1:B0.length<=idr
 n2:idr < idu
 n4: ∀id,pv= .gs id 0 1 piv.length->piv≠[]->idu < id
 ul:us.length=rs.length
def EJ.app {B0 B:Qa} {rs:Xz} {us:X9} {piv:QJ} {idr idu:Nat} {pv:AV} (h:EJ B0 B rs us piv idr idu pv) (x:Int) (o:Bool) (hl:piv.length < 1000000):
  ∃B',appM 8 1 pv (.sl o 1 [[.int .i64 x]]) B=some (.gs B.length 0 1 (piv.length+1),B')/\EJ B0 B' rs us (piv ++ [x]) idr idu (.gs B.length 0 1 (piv.length+1)):=by
 have hrl:=WQ h.hr;have hul:=WQ h.hu;have n2:=h.n2;have n1:=h.n1;obtain⟨hP,h2⟩:=h.hp;have hsr:Wt 1 (.sl o 1 [[AV.int .i64 x]]) B=some (1,[.int .i64 x]):=by simp[Wt]
 rcases h2 with⟨e1,e2⟩ | ⟨id,e1,e2,e3,e4⟩
 ·subst e1;subst e2
  refine⟨B ++ [[.int .i64 x]],?_,⟨Wk h.hr _,Wk h.hu _,⟨hP.app _,.inr ⟨B.length,rfl,by simp,by obtain⟨M,rfl⟩:=hP;simp,QiG _ _ _⟩⟩,n1,n2,fun id hid _=>by injection hid with hid;omega,h.ul⟩⟩;simp[appM,hsr]
 ·subst e1;have hid:=h.n4 id rfl e2;have hidl:=WQ e4;have hne0: ¬piv.length=0:=fun e=>e2 (YE e);have hrl2: (Q2 piv).length=piv.length:=TO piv;have hne:Q2 piv≠[]:=fun e=>by rw[e]at hrl2;exact hne0 hrl2.symm
  have hst: (Q2 piv).map AV.strip=Q2 piv:=by simp[Q2,AV.strip]
  refine⟨B.set id []++ [Q2 piv ++ [.int .i64 x]],?_,⟨Wk (by rw[Y8,Qm (by omega)];exact h.hr) _,Wk (by rw[Y8,Qm (by omega)];exact h.hu) _,⟨(hP.set e3 _).app _,.inr ⟨B.length,by simp,by simp,by obtain⟨M,rfl⟩:=hP;simp,?_⟩⟩,n1,n2,fun id2 hid2 _=>by injection hid2 with hid2;omega,h.ul⟩⟩
  ·simp only[appM,hsr,QC];rw[Qn ⟨by omega,by omega⟩,Qm (by omega),Qm (by omega),Qn ⟨trivial,trivial⟩,e4];simp only[QC];rw[Qn ⟨hne,by omega⟩,Qm (by omega),Rp,<- hrl2,Yy (ZJ _),hst]
  ·have e:B.length=(B.set id []).length:=by simp
   rw[e,YZ];simp[Q2]
def SL.trans {B0 B B':Qa} (h:SL B0 B) (h2:SL B B'):SL B0 B':=by
 obtain⟨M,rfl⟩:=h;obtain⟨M2,rfl⟩:=h2;exact⟨M ++ M2,by simp⟩
def SL.len {B0 B:Qa} (h:SL B0 B):B0.length<=B.length:=by
 obtain⟨M,rfl⟩:=h;simp
def Qp2 (t:Tm):Bool:=isB t MUL || isB t INV
@[simp] def QiO: ∀l:Qj,Zw (l.map Zq)=true
 | []=>rfl
 | k:: l=>by simp[Zw,QiO l]
def nL1 (l:Qj):Nat:=(l.map fun q=>q.2.natAbs).sum
def nnN (t:Tm):Prop:=(isB t XOR=true->ZP t≠[])/\(Qp2 t=true->nL1 (ofP t)<=8)
def HN (t:Tm):Prop:=∀x∈YH t,nnN x
def KK (l:Qj):Prop:=∀q∈l,HN q.1/\W6 q.1=false
def nrE (a:QJ):Nat:=(a.map Int.natAbs).sum
def rtE (a:QJ) (c:Nat):Nat:=nrE (a.set c 0)
def aE (rs:Xz) (c i:Nat):Nat:=(ceE rs i c).natAbs
def xE (rs:Xz) (c i:Nat):Nat:=rtE (rwE rs i) c
def unE (us:X9) (i:Nat):Prop:=us.getD i true=false
def J2 (us:X9) (c Z:Nat) (rs:Xz):Prop:=
 (∀i,i < rs.length->unE us i->aE rs c i<=Z/\aE rs c i+xE rs c i<=Z*Z)/\
 ∀i j,i < rs.length->j < rs.length->i≠j->acE rs us c i=true->acE rs us c j=true->aE rs c i*xE rs c j+aE rs c j*xE rs c i+Z<=Z*Z
structure S4 where
 a0:Nat
 x0:Nat
 a1:Nat
 x1:Nat
 a2:Nat
 x2:Nat
 a3:Nat
 x3:Nat
def S4.a (s:S4):ZF
 | 0=>s.a0
 | 1=>s.a1
 | 2=>s.a2
 | _=>s.a3
def S4.x (s:S4):ZF
 | 0=>s.x0
 | 1=>s.x1
 | 2=>s.x2
 | _=>s.x3
def rA (p:Bool) (m a:Nat):Nat:=if p then a else a % m
def rX (p:Bool) (m y a x:Nat):Nat:=if p then x else x+a / m*y
def S4.step (s:S4) (b:Nat):S4:=
 ⟨rA (b == 0) (s.a b) s.a0,rX (b == 0) (s.a b) (s.x b) s.a0 s.x0,rA (b == 1) (s.a b) s.a1,rX (b == 1) (s.a b) (s.x b) s.a1 s.x1,
  rA (b == 2) (s.a b) s.a2,rX (b == 2) (s.a b) (s.x b) s.a2 s.x2,rA (b == 3) (s.a b) s.a3,rX (b == 3) (s.a b) (s.x b) s.a3 s.x3⟩
def S4.min (s:S4) (b:Nat):Bool:=s.a b != 0 && (s.a0 == 0 || Nat.ble (s.a b) s.a0) && (s.a1 == 0 || Nat.ble (s.a b) s.a1) && (s.a2 == 0 || Nat.ble (s.a b) s.a2) && (s.a3 == 0 || Nat.ble (s.a b) s.a3)
def nz1 (n:Nat):Nat:=if n == 0 then 0 else 1
def S4.one (s:S4):Bool:=Nat.ble (nz1 s.a0+nz1 s.a1+nz1 s.a2+nz1 s.a3) 1
def QhS (l:QJ) (o:Bool) (bs:Qa) (hl:l.length < 1000000):call tb 671 [.sl o 1 (Q7 l)] bs=some (.sl true 1 (Q7 l),bs):=by
 have hb:l.length*8<=140737488355328:=by omega
 rw[Wx tb_671];simp[XC,TA,hb]
def zDl:Qh:=[.int .i64 0,.int .i64 0,.sl true 1 [],.sl true 1 [],.int .i64 0,.str [],.int .i64 0,.sl true 4 []]
def YO (to:QJ) (a:Int):Int:=if 0<=a/\a < (to.length:Int)then to.getD a.toNat 0 else -1
def Y4 (d:Ded) (to:QJ):Ded:=⟨d.r,d.n,d.a.map (YO to),d.c,d.t⟩
def W4 (to pre:QJ) (m:Nat):Qh:=Q2 (pre.map (YO to)++ List.replicate m 0)
def Df (to pre:QJ) (m:Nat): (W4 to pre m).length=pre.length+m:=by simp[W4,Q2]
def Qdl (to pre:QJ) (a v:Int) (m:Nat): (W4 to pre (m+1)).take pre.length ++ (.int .i64 v:: (W4 to pre (m+1)).drop (pre.length+1))=Q2 (pre.map (YO to)++ v:: List.replicate m 0):=by
 have:=Hd (l:=pre.map (YO to)++ List.replicate (m+1) 0) (pre:=pre.map (YO to)) (post:=List.replicate m 0) (x:=0) v (by rw[OG]);simpa[W4]using this
def Nu:Nat->QQ->Bool
 | _,[]=>true
 | i,d:: r=> !(d.a.any (VD i)) && Nu (i+1) r
def I1: ∀{l:QQ} {i:Nat},Nu i l=true->∀{j:Nat} {d:Ded},l[j]? =some d->∀a∈d.a,0<=a/\a < ((i+j:Nat):Int)
 | [],i,_,j,d,h=>by simp at h
 | x:: l,i,hf,j,d,h=>by
  simp only[Nu,Qo,Us]at hf;cases j with
  | zero=>
   simp at h;subst h;intro a ha;have:=Sf.1 hf.1 a ha;simp[VD]at this;omega
  | succ j=>
   intro a ha;have:=I1 hf.2 (by simpa using h) a ha;omega
def LF (l:QQ) (d:Ded):Qz l ++ [QK d]=Qz (l ++ [d]):=by simp[Qz]
def getD_set_ne {u:X9} {i j:Nat} {b:Bool} (h:j≠i): (u.set j b).getD i false=u.getD i false:=by
 simp[U8,Vs h]
def Nf:QQ->Nat
 | []=>0
 | d:: l=>d.a.length+d.c.length+Nf l
def Ai (l:QQ):Prop:=∀d∈l,d.a.length<=17592186044416/\d.c.length<=17592186044416
def Bh: ∀(l:QQ) (n:Int),Ai l->0<=n->n+l.length*35184372088832 < 9223372036854775808->Ng n l=n+Nf l
 | [],n,_,_,_=>by simp[Ng,Nf]
 | d:: l,n,h,h0,hb=>by
  obtain⟨h1,h2⟩:=h d (by simp);have hb':n+ ((l.length:Int)+1)*35184372088832 < 9223372036854775808:=by simpa using hb
  have hb2:n+ (d.a.length:Int)+d.c.length+ (l.length:Int)*35184372088832 < 9223372036854775808:=by omega
  have hl0: (0:Int)<=(l.length:Int)*35184372088832:=by omega
  have w1:IntKind.i64.wrap (n+d.a.length)=n+d.a.length:=Zb (by omega) (by omega);have w2:IntKind.i64.wrap (n+d.a.length+d.c.length)=n+d.a.length+d.c.length:=Zb (by omega) (by omega);simp only[Ng,w1,w2,Nf];rw[Bh l _ (fun x hx=>h x (by simp[hx])) (by omega) hb2];omega
def Ez: ∀{l:QQ} {d:Ded},d∈l->d.a.length+d.c.length<=Nf l
 | [],d,h=>by simp at h
 | x:: l,d,h=>by
  rcases ZS.1 h with rfl | h
  ·simp only[Nf];omega
  ·have:=Ez h;simp only[Nf];omega
structure FD (l:List Ded):Prop where
 len:l.length<=410
 ac: ∀d∈l,d.a.length<=1000/\d.c.length<=1000
 cnt:Nf l<=1000
 mass: ∀d∈l,d.t.mass<=126000
 nodes:QB (l.map Ded.t)<=3000
def QgC {l:QQ} (hr:Ai l) (h:Nq l=true):FD l:=by
 have hl:=QiE h;simp only[Nq,Qo,Qv]at h;obtain⟨h1,h2⟩:=h;rw[Bh l 0 hr (by omega) (by omega)]at h1;have hc:Nf l<=1000:=by omega
 obtain⟨m1,m2,m3⟩:=Kc (by omega) h2;refine⟨hl,fun d hd=> ?_,hc,fun d hd=> ?_,by simpa using m3⟩
 ·have:=Ez hd;omega
 ·have:d.t.mass<=Qt (l.map Ded.t):=Q4 (FL hd);simp at m2;omega
def QgA {k:Qe} {l:QQ} (hk:few k 62 700=true) (hl:FD l):O3 k l:=by
 obtain⟨k1,k2,k3⟩:=Kc (by omega) hk;refine⟨fun x hx=> ?_,by omega,fun d hd=> ?_,fun d hd=>(hl.ac d hd).1,fun d hd=>(hl.ac d hd).2,by have:=hl.len;omega⟩
 ·have:x.mass<=Qt k:=Q4 hx;simp at k2;omega
 ·have:=hl.mass d hd;omega
def QhT (k:Qe) (l:QQ) (o o1:Bool) (bs:Qa) (hl:l.length<=1172812402961):call tb 700 [.sl o 4 (Qb k),.sl o1 8 (Qz l)] bs=some (.bool (few k 62 700 && Nq l),bs):=by
 have h1:call tb 101 [.sl false 4 (Qb k),.int .i64 62,.int .i64 700] bs=some (.bool (few k 62 700),bs):=Ej k false 62 700 bs (by omega) (by omega) (by omega);have h2:=C9 l false bs hl;rw[zcc 700 rfl rfl];cases c:few k 62 700
 ·rw[c]at h1;simp[f700C,h1]
 ·rw[c]at h1;simp[f700C,h1,h2]
def QiP {to:QJ} {a:Int} (h0:0<=a) (h1:a < (to.length:Int)):YO to a=to.getD a.toNat 0:=by unfold YO;rw[Qn ⟨h0,h1⟩]
def JU (l out:QQ) (p:Nat) (x:Ded):Prop:=∃(j:Nat) (d:Ded),l[j]? =some d/\x.r=d.r/\x.n=d.n/\x.c=d.c/\x.t=d.t/\x.a.length=d.a.length/\
 ∀(i:Nat) (a:Int),d.a[i]? =some a->∃b:Nat,x.a[i]? =some (b:Int)/\b < p/\∃y,out[b]? =some y/\l[a.toNat]?.map Ded.t=some y.t
def JU.app {l out:QQ} {p:Nat} {x:Ded} (h:JU l out p x) (z:QQ) (hp:p<=out.length):JU l (out ++ z) p x:=by
 obtain⟨j,d,h1,h2,h3,h4,h5,h6,h7⟩:=h;refine⟨j,d,h1,h2,h3,h4,h5,h6,fun i a ha=> ?_⟩;obtain⟨b,k1,k2,y,k3,k4⟩:=h7 i a ha;exact⟨b,k1,k2,y,by rw[ZM (by omega)];exact k3,k4⟩
def RX {α:Type} {l:List α} {i:Nat} {x:α} (h:l[i]? =some x):i < l.length:=by
 rcases QR i l.length with h1 | h1
 ·exact h1
 ·rw[Q3 h1]at h;cases h
def QiU (l:QJ) (bs:Qa) (hl:l.length<=1000000):
  ∀(post pre:QJ) (ρ:Ql),l=pre ++ post->ρ 0= .sl false 1 (Q7 l)->ρ 1= .sl false 1 (Q7 l)->ρ 5= .int .i64 pre.length->
  R tb (.loop f710l0) ρ bs (Qq 0 (QH tb f710r0 (QP f710 bs)))=some (.bool true,bs):=by
 intro post
 induction post with
 | nil=>
  intro pre ρ hk h0 h1 h5;simp only[QN]at hk;rw[<- hk]at h5;rw[Qg f710l0.eq_1];simp[h0,h1,h5,f710r0]
 | cons x post IH=>
  intro pre ρ hk h0 h1 h5;have hll:=QL hk;have hx: (Q7 l)[pre.length]? =some [.int .i64 x]:=by rw[Vq,Qx hk];rfl
  have hw1:=wr1 pre.length (by omega);have hlt:=QO hk;rw[Qg f710l0.eq_1];simp[-Vq,h0,h1,h5,hx,hlt,hw1];rw[IH (pre ++ [x])] <;> simp[h0,h1,hk]
def F7 (l:QJ) (bs:Qa) (hl:l.length<=1000000):call tb 710 [.sl false 1 (Q7 l),.sl false 1 (Q7 l)] bs=some (.bool true,bs):=by
 rw[zcc 710 rfl rfl];simp[f710C];rw[QiU l bs hl l []] <;> simp
def Qf1 (l:QQ) (bs:Qa) (hl:l.length<=1000000) (hac: ∀d∈l,d.a.length<=1000000/\d.c.length<=1000000/\d.t.mass < 1000000):
  ∀(post pre:QQ) (ρ:Ql),l=pre ++ post->ρ 0= .sl false 8 (Qz l)->ρ 1= .sl false 8 (Qz l)->ρ 5= .int .i64 pre.length->
  R tb (.loop f709l0) ρ bs (Qq 0 (QH tb f709r0 (QP f709 bs)))=some (.bool true,bs):=by
 intro post
 induction post with
 | nil=>
  intro pre ρ hk h0 h1 h5;simp only[QN]at hk;rw[<- hk]at h5;rw[Qg f709l0.eq_1];simp[h0,h1,h5,f709r0]
 | cons d post IH=>
  intro pre ρ hk h0 h1 h5;have hll:=QL hk;have hx: (Qz l)[pre.length]? =some (QK d):=by rw[Yr,Qx hk];rfl
  have hw1:=wr1 pre.length (by omega);have hlt:=QO hk;obtain⟨a1,a2,a3⟩:=hac d (by rw[hk];simp);have c1:=F7 d.a bs a1;have c2:=F7 d.c bs a2;have c3:=Y3 d.t d.t bs (by unfold big;omega) (by unfold big;omega);rw[Vg]at c3;have e0:=Lq d;have e1:=Qh3 d;have e2:=Qh4 d;have e3:=Qh5 d;have e4:=XE d;have el:=Wo d;have htk: (Qf d.t).take 4=Qf d.t:=Qk d.t;generalize Q7 d.a=EA at *;generalize Q7 d.c=EC at *;generalize QK d=ED at *;rw[Qg f709l0.eq_1];simp[-getElem?_pos,Zt,ZI,-Yr,h0,h1,h5,hx,hlt,hw1,e0,e1,e2,e3,e4,el,htk,c1,c2,c3];rw[IH (pre ++ [d])] <;> simp[h0,h1,hk]
def L3 (l:QQ) (o o1:Bool) (bs:Qa) (hl:l.length<=1000000) (hac: ∀d∈l,d.a.length<=1000000/\d.c.length<=1000000/\d.t.mass < 1000000):
  call tb 709 [.sl o 8 (Qz l),.sl o1 8 (Qz l)] bs=some (.bool true,bs):=by
 rw[zcc 709 rfl rfl];simp[f709C];rw[Qf1 l bs hl hac l []] <;> simp
def NO (ks:Qe) (l:QQ): ∀(post:QQ) (i:Nat),Wq ks l i post=true↔∀(k:Nat) (x:Ded),post[k]? =some x->stB ks l (i+k) x=true
 | [],i=>by simp[Wq]
 | d:: post,i=>by
  simp only[Wq,Qo,NO ks l post (i+1)];constructor
  ·rintro⟨h0,h1⟩ k x hx
   cases k with
   | zero=>simp at hx;subst hx;simpa using h0
   | succ k=>simp at hx;have:=h1 k x hx;rwa[show i+ (k+1)=i+1+k by omega]
  ·intro h;refine⟨by simpa using h 0 d rfl,fun k x hx=> ?_⟩;have:=h (k+1) x (by simpa using hx);rwa[show i+ (k+1)=i+1+k by omega]at this
def QiH {ks ks2:Qe} {l out:QQ} {p:Nat} {x:Ded} (h:JU l out p x) (hl: ∀(j:Nat) (d:Ded),l[j]? =some d->stB ks l j d=true) (hrt: ∀A,rtB ks x A=true->rtB ks2 x A=true):stB ks2 out p x=true:=by
 obtain⟨j,d,h1,h2,h3,h4,h5,h6,h7⟩:=h;have hs:=hl j d h1;obtain⟨r,n,xa,c,t⟩:=x;obtain⟨dr,dn,a,dc,dt⟩:=d;simp only at h2 h3 h4 h5 h6 h7;subst h2 h3 h4 h5;simp only[stB,Qo,Qv]at hs ⊢;obtain⟨s1,s2,s3⟩:=hs;have hA:Wd out ⟨r,n,xa,c,t⟩=Wd l ⟨r,n,a,c,t⟩:=by
  unfold Wd;apply UQ;intro i;simp only[Wb];cases ha:a[i]? with
  | none=>
   have:xa[i]? =none:=by
    rw[QcB]at ha ⊢;omega
   rw[this];rfl
  | some v=>
   obtain⟨b,k1,k2,y,k3,k4⟩:=h7 i v ha;rw[k1];simp only[QS,OA,k3,k4]
 obtain⟨f1,f2,f3,f4,f5⟩:=SV s2;have hany:xa.any (VD p)=false:=by
  rw[Sf];intro v hv;obtain⟨i,hi⟩:=Sk hv;have hil:i < a.length:=by have:=RX hi;omega
  obtain⟨b,k1,k2,_⟩:=h7 i _ (Zv hil);rw[hi]at k1;injection k1 with k1
  subst k1;simp[VD];omega
 have hc:c.any Yi=false:=by
  rw[Sf];intro v hv;rw[f5 v hv];simp
 have f2':f6B ⟨r,n,xa,c,t⟩=false:=by
  rw[<- f2];unfold f6B So;simp only[h6]
 have f4':fNB ⟨r,n,xa,c,t⟩=false:=f4;refine⟨s1,?_,?_⟩
 ·unfold Td;simp only[f1,f2',f4',hany,hc,Z3,Zd,Bool.true_eq_false]
 ·rw[hA];exact hrt _ s3
def NU {ks:Qe} {l:QQ}: ∀{post:QQ} {i:Nat},Wq ks l i post=true->Nu i post=true
 | [],_,_=>rfl
 | d:: post,i,h=>by
  simp only[Wq,Qo]at h;simp only[Nu,Qo,Us];refine⟨?_,NU h.2⟩;simp only[stB,Qo,Qv]at h;obtain⟨_,_,f3,_,_⟩:=SV h.1.2.1;rw[Sf];intro a ha;have:=f3 a ha;simp[VD];omega
def QiR (d:Ded) (to:QJ) (k ia:Nat) (oo:Bool) (bs:Qa) (hk:to.length=k) (hal:d.a.length<=1000) (hkl:k < 1000000) (cc:AC) (K:Kn) (X:Out):
  ∀(post pre:QJ) (M:Qa) (ρ:Ql),d.a=pre ++ post->ia=bs.length->M=[W4 to pre post.length]->ρ 1= .sl oo 1 (Q7 to)->ρ 2= .bx (QK d)->ρ 4= .bx zDl->ρ 5= .gs ia 0 1 d.a.length->ρ 13= .sl false 1 (Q7 d.a)->ρ 14= .int .i64 d.a.length->ρ 15= .int .i64 pre.length->
   (∀ρ':Ql,ρ' 2= .bx (QK d)->ρ' 4= .bx zDl->ρ' 5= .gs ia 0 1 d.a.length->R tb cc ρ' (bs ++ [W4 to d.a 0]) K=X)->
  R tb (.loop f713l0) ρ (bs ++ M) (Qq 0 (QH tb cc K))=X:=by
 intro post
 induction post with
 | nil=>
  intro pre M ρ hp hia hM h1 h2 h4 h5 h13 h14 h15 h;simp only[QN]at hp;subst hM;rw[<- hp]at h15 ⊢;rw[Qg f713l0.eq_1];simp[h1,h2,h4,h5,h13,h14,h15];apply h <;> simp[h2,h4,h5]
 | cons a post IH=>
  intro pre M ρ hp hia hM h1 h2 h4 h5 h13 h14 h15 h;have hll:d.a.length=pre.length+ (post.length+1):=by rw[hp];simp
  have hg: (Q7 d.a)[pre.length]? =some [.int .i64 a]:=by rw[Vq,Qx hp];rfl
  have hw1:=wr1 pre.length (by omega);have hlt: (pre.length:Int) < (d.a.length:Int):=by omega
  have hltn:pre.length < d.a.length:=by omega
  have hcl:pre.length+1<=(W4 to pre (post.length+1)).length:=by rw[Df];omega
  have hp1:=Qdl to pre a (-1) post.length;have hb: ∀x:Qh,(bs ++ [x])[bs.length]? =some x:=fun x=>YZ;have hset: ∀x y:Qh,(bs ++ [x]).set bs.length y=bs ++ [y]:=fun x y=>by simp
  subst hM hia;rw[Qg f713l0.eq_1];have hl1:pre.length+1<=(Q2 (pre.map (YO to)++ -1:: List.replicate post.length 0)).length:=by simp[Q2]
  by_cases c0:0<=a
  ·by_cases c1:a < (k:Int)
   ·have hca: (Q7 to)[a.toNat]? =some [.int .i64 (to.getD a.toNat 0)]:=IM (by omega);have htl:=IP to;have hma:YO to a=to.getD a.toNat 0:=by unfold YO;rw[Qn ⟨c0,by omega⟩]
    have hp2:=Hd (l:=pre.map (YO to)++ -1:: List.replicate post.length 0) (pre:=pre.map (YO to)) (post:=List.replicate post.length 0) (x:= -1) (to.getD a.toNat 0) rfl;rw[Vv]at hp2;have hfin:Q2 (pre.map (YO to)++ to.getD a.toNat 0:: List.replicate post.length 0)=W4 to (pre ++ [a]) post.length:=by unfold W4;rw[UI,ZR];simp[hma]
    rw[hfin]at hp2;generalize hv:to.getD a.toNat 0=v at *;generalize W4 to pre (post.length+1)=C0 at *;generalize Q2 (pre.map (YO to)++ -1:: List.replicate post.length 0)=C1 at *;have c2:a.toNat < k:=by omega
    simp[-getElem?_pos,Zt,ZI,-Vq,h1,h2,h4,h5,h13,h14,h15,hg,hlt,hltn,hb,hset,hcl,hp1,hl1,c0,c1,c2,hca,htl,hk,hp2,hw1];apply IH (pre ++ [a]) <;> first | rfl | exact h | (simp[h1,h2,h4,h5,h13,h14,hp];done)
   ·have hma:YO to a= -1:=by unfold YO;rw[Qm (by omega)]
    have hfin:Q2 (pre.map (YO to)++ -1:: List.replicate post.length 0)=W4 to (pre ++ [a]) post.length:=by unfold W4;rw[UI,ZR];simp[hma]
    rw[hfin]at hp1;generalize W4 to pre (post.length+1)=C0 at *;simp[-getElem?_pos,Zt,ZI,-Vq,h1,h2,h4,h5,h13,h14,h15,hg,hlt,hltn,hb,hset,hcl,hp1,c0,c1,hk,hw1];apply IH (pre ++ [a]) <;> first | rfl | exact h | (simp[h1,h2,h4,h5,h13,h14,hp];done)
  ·have hma:YO to a= -1:=by unfold YO;rw[Qm (by omega)]
   have hfin:Q2 (pre.map (YO to)++ -1:: List.replicate post.length 0)=W4 to (pre ++ [a]) post.length:=by unfold W4;rw[UI,ZR];simp[hma]
   rw[hfin]at hp1;generalize W4 to pre (post.length+1)=C0 at *;simp[-getElem?_pos,Zt,ZI,-Vq,h1,h2,h4,h5,h13,h14,h15,hg,hlt,hltn,hb,hset,hcl,hp1,c0,hw1];apply IH (pre ++ [a]) <;> first | rfl | exact h | (simp[h1,h2,h4,h5,h13,h14,hp];done)
def QhV (d:Ded) (to:QJ) (k:Nat) (oo:Bool) (bs:Qa) (hk:to.length=k) (hal:d.a.length<=1000) (hcl:d.c.length<=1000) (hkl:k < 1000000):
  call tb 713 [.agg (QK d),.sl oo 1 (Q7 to)] bs=some (.agg (QK (Y4 d to)),bs):=by
 have h1:=fun cc K X ρ=>QiR d to k bs.length false bs hk hal hkl cc K X d.a [] [W4 to [] d.a.length] ρ rfl rfl rfl;have c671:=QhS d.c false (bs ++ [W4 to d.a 0]) (by omega);have hb: ∀x:Qh,(bs ++ [x])[bs.length]? =some x:=fun x=>YZ;have hset: ∀x y:Qh,(bs ++ [x]).set bs.length y=bs ++ [y]:=fun x y=>by simp
 have hcap:d.a.length*8<=140737488355328:=by omega
 have hnl: ((d.a.length:Int))<=4611686018427387904:=by omega
 have hrep: (List.replicate d.a.length [AV.int .i64 0]).flatten=W4 to [] d.a.length:=by simp[W4,Q2,List.flatten_replicate_singleton]
 have hch:ZX (W4 to d.a 0) 0 1 d.a.length=Q7 (d.a.map (YO to)):=by
  have:=QfG (d.a.map (YO to)) [];simpa[W4]using this
 have hml: (W4 to d.a 0).length=d.a.length:=by rw[Df];rfl
 rw[zcc 713 rfl rfl];have e1:QK (Y4 d to)=[.int .i64 d.r,.int .i64 d.n,.sl false 1 (Q7 (d.a.map (YO to))),.sl false 1 (Q7 d.c),.int .i64 d.t.kind,.str d.t.name,.int .i64 d.t.sort,.sl false 4 (Qb d.t.kids)]:=by rw[XS];rfl
 have e2:=XS d;simp[f713C,hcap,hnl,hrep];apply h1
 all_goals first | (simp;done) | (simp[zDl];done) | skip
 intro ρ' h2 h4 h5;rw[e2]at h2;by_cases h0:d.a.length=0
 ·have hnil:d.a=[]:=YE h0;rw[e1];rw[hnil]at h5 ⊢;rw[hnil]at c671;have e0:Q7 []=[]:=rfl;have hg:=OS d.c;simp only[Wr,e0];generalize Q7 d.c=E at *;simp[-getElem?_pos,Zt,ZI,f713r0,h2,h4,h5,c671,zDl,Zw,QY,AV.gpfree,hg]
 ·rw[e1];have hg:=OS (d.a.map (YO to));generalize W4 to d.a 0=C at *;generalize Q7 (d.a.map (YO to))=E at *;simp[-getElem?_pos,Zt,ZI,f713r0,h2,h4,h5,c671,zDl,h0,hb,hml,hch,hset,hg]
def QiS (d:Ded) (to:QJ) (k:Nat) (oo:Bool) (bs:Qa) (hk:to.length=k) (hal:d.a.length<=1000) (cc:AC) (K:Kn) (X:Out):
  ∀(post pre:QJ) (ρ:Ql),d.a=pre ++ post->ρ 1= .sl oo 1 (Q7 to)->ρ 2= .bx (QK d)->ρ 4= .bx zDl->ρ 5= .sl true 1 (Q7 (pre.map (YO to)))->ρ 6= .int .i64 pre.length->
   (∀ρ':Ql,ρ' 2= .bx (QK d)->ρ' 4= .bx zDl->ρ' 5= .sl true 1 (Q7 (d.a.map (YO to)))->R tb cc ρ' bs K=X)->
  R tb (.loop f715l0) ρ bs (Qq 0 (QH tb cc K))=X:=by
 intro post
 induction post with
 | nil=>
  intro pre ρ hp h1 h2 h4 h5 h6 h;simp only[QN]at hp;rw[<- hp]at h5 h6;rw[Qg f715l0.eq_1];simp[h1,h2,h4,h5,h6];apply h <;> simp[h2,h4,h5]
 | cons a post IH=>
  intro pre ρ hp h1 h2 h4 h5 h6 h;have hll:d.a.length=pre.length+ (post.length+1):=by rw[hp];simp
  have hg: (Q7 d.a)[pre.length]? =some [.int .i64 a]:=by rw[Vq,Qx hp];rfl
  have hw1:=wr1 pre.length (by omega);have hlt: (pre.length:Int) < (d.a.length:Int):=by omega
  have hcap: (pre.length+1)*8<=140737488355328:=by omega
  have hfin:Q7 (pre.map (YO to))++ [[.int .i64 (YO to a)]]=Q7 ((pre ++ [a]).map (YO to)):=by simp[Q7]
  have hel: (Q7 (pre.map (YO to))).length=pre.length:=by simp
  rw[Qg f715l0.eq_1];generalize hE:Q7 (pre.map (YO to))=E at *;by_cases c0:0<=a
  ·by_cases c1:a < (k:Int)
   ·have hca: (Q7 to)[a.toNat]? =some [.int .i64 (to.getD a.toNat 0)]:=IM (by omega);have htl:=IP to;have hma:YO to a=to.getD a.toNat 0:=by unfold YO;rw[Qn ⟨c0,by omega⟩]
    have c2:a.toNat < k:=by omega
    rw[hma]at hfin;generalize hv:to.getD a.toNat 0=v at *;simp[-getElem?_pos,Zt,ZI,-Vq,h1,h2,h4,h5,h6,hg,hlt,c0,c1,c2,hca,htl,hk,hel,hcap,hfin,hw1];apply IH (pre ++ [a]) <;> first | rfl | exact h | (simp[h1,h2,h4,h5,hp];done)
   ·have hma:YO to a= -1:=by unfold YO;rw[Qm (by omega)]
    rw[hma]at hfin;simp[-getElem?_pos,Zt,ZI,-Vq,h1,h2,h4,h5,h6,hg,hlt,c0,c1,hk,hel,hcap,hfin,hw1];apply IH (pre ++ [a]) <;> first | rfl | exact h | (simp[h1,h2,h4,h5,hp];done)
  ·have hma:YO to a= -1:=by unfold YO;rw[Qm (by omega)]
   rw[hma]at hfin;simp[-getElem?_pos,Zt,ZI,-Vq,h1,h2,h4,h5,h6,hg,hlt,c0,hel,hcap,hfin,hw1];apply IH (pre ++ [a]) <;> first | rfl | exact h | (simp[h1,h2,h4,h5,hp];done)
def QhX (d:Ded) (to:QJ) (k:Nat) (oo:Bool) (bs:Qa) (hk:to.length=k) (hal:d.a.length<=1000):
  call tb 715 [.agg (QK d),.sl oo 1 (Q7 to)] bs=some (.agg (QK (Y4 d to)),bs):=by
 have h1:=fun cc K X ρ=>QiS d to k false bs hk hal cc K X d.a [] ρ rfl;rw[zcc 715 rfl rfl];have e1:QK (Y4 d to)=[.int .i64 d.r,.int .i64 d.n,.sl false 1 (Q7 (d.a.map (YO to))),.sl false 1 (Q7 d.c),.int .i64 d.t.kind,.str d.t.name,.int .i64 d.t.sort,.sl false 4 (Qb d.t.kids)]:=by rw[XS];rfl
 have e2:=XS d;simp[f715C];apply h1
 all_goals first | (simp;done) | (simp[zDl,Q7];done) | skip
 intro ρ' h2 h4 h5;rw[e2]at h2;rw[e1];have hg:=OS (d.a.map (YO to));generalize Q7 (d.a.map (YO to))=E at *;simp[-getElem?_pos,Zt,ZI,f715r0,h2,h4,h5,zDl,hg]
def Xe (t:Tm) (d:Ded):Bool:=decide (d.r=1) && decide (Qp d.t t=0)
def jnF (t:Tm) (L1:Nat):QJ->QQ->QQ->QJ×QQ
 | to,out,[]=>(to,out)
 | to,out,d:: r=>if Xe t d then jnF t L1 (to ++ [(L1:Int)]) out r else jnF t L1 (to ++ [(out.length:Int)]) (out ++ [Y4 d to]) r
def Ii (t:Tm) (L1:Nat): ∀(m:QQ) (to:QJ) (out:QQ),(jnF t L1 to out m).2.length<=out.length+m.length/\(jnF t L1 to out m).1.length=to.length+m.length/\out.length<=(jnF t L1 to out m).2.length
 | [],to,out=>by simp[jnF]
 | d:: r,to,out=>by
  simp only[jnF];split
  ·have:=Ii t L1 r (to ++ [(L1:Int)]) out;simp only[Zo,ZL,Yz]at this ⊢;omega
  ·have:=Ii t L1 r (to ++ [(out.length:Int)]) (out ++ [Y4 d to]);simp only[Zo,ZL,Yz]at this ⊢;omega
def QhP (l:QQ) (o:Bool) (bs:Qa) (hl:l.length<=1000000):call tb 595 [.sl o 8 (Qz l)] bs=some (.sl true 8 (Qz l),bs):=by
 have hb:l.length*120<=140737488355328:=by omega
 rw[Wx tb_595];simp[XC,TA,hb]
def QoX (l m:QQ) (dl:Ded) (bs:Qa) (hdl:l[l.length - 1]? =some dl) (hne:l≠[]) (hl:l.length<=410) (hm:m.length<=410) (hlm:dl.t.mass < 1000000) (hac: ∀d∈m,d.a.length<=1000/\d.c.length<=1000/\d.t.mass < 1000000) (c:AC) (K:Kn) (X:Out):
  ∀(post pre:QQ) (to:QJ) (out:QQ) (ρ:Ql),m=pre ++ post->to.length=pre.length->out.length<=410+pre.length->ρ 0= .sl false 8 (Qz l)->ρ 6= .sl true 8 (Qz out)->ρ 7= .int .i64 (l.length - 1:Nat)->ρ 9= .sl true 1 (Q7 to)->ρ 44= .sl false 8 (Qz m)->ρ 45= .int .i64 m.length->ρ 46= .int .i64 pre.length->
   (∀ρ':Ql,ρ' 6= .sl true 8 (Qz (jnF dl.t (l.length - 1) to out post).2)->R tb c ρ' bs K=X)->
  R tb (.loop f712l0) ρ bs (Qq 0 (QH tb c K))=X:=by
 have hgl: (Qz l)[l.length - 1]? =some (QK dl):=by rw[Yr,hdl];rfl
 have hpos:0 < l.length:=UH.2 hne;have hl1: ((l.length - 1:Nat):Int) < (l.length:Int):=by omega
 have hnn: (0:Int)<=((l.length - 1:Nat):Int):=by omega
 have hcast: ((l.length - 1:Nat):Int).toNat=l.length - 1:=by omega
 have ed4:=XE dl;have htkl: (Qf dl.t).take 4=Qf dl.t:=Qk dl.t;have ell:=Wo dl;generalize hn1:l.length - 1=n1 at *;intro post
 induction post with
 | nil=>
  intro pre to out ρ hk ht ho h0 h6 h7 h9 h44 h45 h46 h;simp only[QN]at hk;rw[<- hk]at h46;rw[Qg f712l0.eq_1];simp[h0,h6,h7,h9,h44,h45,h46];apply h;simp[h6,jnF]
 | cons d post IH=>
  intro pre to out ρ hk ht ho h0 h6 h7 h9 h44 h45 h46 h;have hg: (Qz m)[pre.length]? =some (QK d):=by rw[Yr,Qx hk];rfl
  have hll:=QL hk;have hw1:=wr1 pre.length (by omega);have hlt:=QO hk;obtain⟨d1,d2,d3⟩:=hac d (by rw[hk];simp);have c350:=Tb d.t dl.t bs (by unfold big;omega) (by unfold big;omega);have e0:=Lq d;have e4:=XE d;have htk: (Qf d.t).take 4=Qf d.t:=Qk d.t;have el:=Wo d;have hcap: (to.length+1)*8<=140737488355328:=by omega
  have hcap2: (out.length+1)*120<=140737488355328:=by omega
  have eI:=EI to;have eD:=XM out;have hsn:=LF out (Y4 d to);have mel:=Wo (Y4 d to);have mes:=TB (Y4 d to);have hIs: ∀x:Int,Q7 to ++ [[.int .i64 x]]=Q7 (to ++ [x]):=fun x=>by simp[Q7]
  have c713:=QhV d to to.length false bs rfl d1 d2 (by omega);have hwo:IntKind.i64.wrap (out.length:Int)=(out.length:Int):=Zb (by omega) (by omega);simp only[jnF]at h;have ih:=fun to out ρ=>IH (pre ++ [d]) to out ρ (by rw[hk];simp);rw[Qg f712l0.eq_1];have estr: (QK d).map AV.strip=QK d:=TB d;have etk8: (QK d).take 8=QK d:=Om d;generalize hED:QK d=ED at *;generalize hEDl:QK dl=EDl at *;generalize hEO:Qz out=EO at *;generalize hET:Q7 to=ET at *;by_cases c1:d.r=1
  ·cases c2:decide (Qp d.t dl.t=0)
   ·have hgv:Xe dl.t d=false:=by unfold Xe;rw[c2];simp
    rw[c2]at c350;rw[hgv]at h;simp only[Z3,Zd]at h;have hEO2: (EO ++ [QK (Y4 d to)]).length=out.length+1:=by simp[eD]
    rw[hsn]at hEO2;generalize hEM:QK (Y4 d to)=EM at *;generalize hEN:Qz (out ++ [Y4 d to])=EN at *;simp[-getElem?_pos,Zt,ZI,-Yr,h0,h6,h7,h9,h44,h45,h46,hg,hlt,hw1,e0,e4,el,htk,etk8,estr,c1,hgl,hl1,hnn,hcast,ed4,htkl,ell,c350,eI,eD,hcap,hcap2,c713,hsn,hEO2,hwo,hIs,mel,mes];apply ih (to ++ [(out.length:Int)]) (out ++ [Y4 d to]) _ (by simp[ht]) (by simp;omega)
    all_goals first | (simp[h0,h7,h44,h45,hEN];done) | exact h
   ·have hgv:Xe dl.t d=true:=by unfold Xe;rw[c2,c1];rfl
    rw[c2]at c350;rw[hgv,Qn rfl]at h;simp[-getElem?_pos,Zt,ZI,-Yr,h0,h6,h7,h9,h44,h45,h46,hg,hlt,hw1,e0,e4,el,htk,etk8,estr,c1,hgl,hl1,hnn,hcast,ed4,htkl,ell,c350,eI,hcap,hIs];apply ih (to ++ [(n1:Int)]) out _ (by simp[ht]) (by simp;omega)
    all_goals first | (simp[h0,h6,h7,h44,h45,hEO];done) | exact h
  ·have hgv:Xe dl.t d=false:=by unfold Xe;simp[c1]
   rw[hgv]at h;simp only[Z3,Zd]at h;have hEO2: (EO ++ [QK (Y4 d to)]).length=out.length+1:=by simp[eD]
   rw[hsn]at hEO2;generalize hEM:QK (Y4 d to)=EM at *;generalize hEN:Qz (out ++ [Y4 d to])=EN at *;simp[-getElem?_pos,Zt,ZI,-Yr,h0,h6,h7,h9,h44,h45,h46,hg,hlt,hw1,e0,e4,el,htk,etk8,estr,c1,eI,eD,hcap,hcap2,c713,hsn,hEO2,hwo,hIs,mel,mes];apply ih (to ++ [(out.length:Int)]) (out ++ [Y4 d to]) _ (by simp[ht]) (by simp;omega)
   all_goals first | (simp[h0,h7,h44,h45,hEN];done) | exact h
def QoY (l m:QQ) (dl:Ded) (bs:Qa) (hdl:l[l.length - 1]? =some dl) (hne:l≠[]) (hl:l.length<=410) (hm:m.length<=410) (hlm:dl.t.mass < 1000000) (hac: ∀d∈m,d.a.length<=1000/\d.c.length<=1000/\d.t.mass < 1000000) (c:AC) (K:Kn) (X:Out):
  ∀(post pre:QQ) (to:QJ) (out:QQ) (ρ:Ql),m=pre ++ post->to.length=pre.length->out.length<=410+pre.length->ρ 0= .sl false 8 (Qz l)->ρ 1= .sl false 8 (Qz m)->ρ 6= .sl true 8 (Qz out)->ρ 7= .bx (Qf dl.t)->ρ 8= .sl true 1 (Q7 to)->ρ 9= .int .i64 pre.length->
   (∀ρ':Ql,ρ' 0= .sl false 8 (Qz l)->ρ' 1= .sl false 8 (Qz m)->ρ' 6= .sl true 8 (Qz (jnF dl.t (l.length - 1) to out post).2)->ρ' 8= .sl true 1 (Q7 (jnF dl.t (l.length - 1) to out post).1)->R tb c ρ' bs K=X)->
  R tb (.loop f714l0) ρ bs (Qq 0 (QH tb c K))=X:=by
 have hwl:IntKind.i64.wrap ((l.length:Int) - 1)=((l.length - 1:Nat):Int):=by
  have:0 < l.length:=UH.2 hne;rw[Zb (by omega) (by omega)];omega
 have hgl: (Qz l)[l.length - 1]? =some (QK dl):=by rw[Yr,hdl];rfl
 have hpos:0 < l.length:=UH.2 hne;have hl1: ((l.length - 1:Nat):Int) < (l.length:Int):=by omega
 have hnn: (0:Int)<=((l.length - 1:Nat):Int):=by omega
 have hcast: ((l.length - 1:Nat):Int).toNat=l.length - 1:=by omega
 have ed4:=XE dl;have htkl: (Qf dl.t).take 4=Qf dl.t:=Qk dl.t;have ell:=Wo dl;generalize hn1:l.length - 1=n1 at *;intro post
 induction post with
 | nil=>
  intro pre to out ρ hk ht ho h0 h1 h6 h7 h8 h9 h;simp only[QN]at hk;rw[<- hk]at h9;rw[Qg f714l0.eq_1];simp[h0,h1,h6,h7,h8,h9];apply h <;> simp[h0,h1,h6,h8,jnF]
 | cons d post IH=>
  intro pre to out ρ hk ht ho h0 h1 h6 h7 h8 h9 h;have hg: (Qz m)[pre.length]? =some (QK d):=by rw[Yr,Qx hk];rfl
  have hll:=QL hk;have hw1:=wr1 pre.length (by omega);have hlt:=QO hk;obtain⟨d1,d2,d3⟩:=hac d (by rw[hk];simp);have c89:=Y3 d.t dl.t bs (by unfold big;omega) (by unfold big;omega);have e0:=Lq d;have e4:=XE d;have htk: (Qf d.t).take 4=Qf d.t:=Qk d.t;have el:=Wo d;have hcap: (to.length+1)*8<=140737488355328:=by omega
  have hcap2: (out.length+1)*120<=140737488355328:=by omega
  have eI:=EI to;have eD:=XM out;have hsn:=LF out (Y4 d to);have mel:=Wo (Y4 d to);have mes:=TB (Y4 d to);have hIs: ∀x:Int,Q7 to ++ [[.int .i64 x]]=Q7 (to ++ [x]):=fun x=>by simp[Q7]
  have c715:=QhX d to to.length false bs rfl d1;have hwo:IntKind.i64.wrap (out.length:Int)=(out.length:Int):=Zb (by omega) (by omega);simp only[jnF]at h;have ih:=fun to out ρ=>IH (pre ++ [d]) to out ρ (by rw[hk];simp);rw[Qg f714l0.eq_1];have estr: (QK d).map AV.strip=QK d:=TB d;have etk8: (QK d).take 8=QK d:=Om d;generalize hED:QK d=ED at *;generalize hEDl:QK dl=EDl at *;generalize hEO:Qz out=EO at *;generalize hET:Q7 to=ET at *;by_cases c1:d.r=1
  ·cases c2:decide (Qp d.t dl.t=0)
   ·have hgv:Xe dl.t d=false:=by unfold Xe;rw[c2];simp
    rw[c2]at c89;rw[hgv]at h;simp only[Z3,Zd]at h;have hEO2: (EO ++ [QK (Y4 d to)]).length=out.length+1:=by simp[eD]
    rw[hsn]at hEO2;generalize hEM:QK (Y4 d to)=EM at *;generalize hEN:Qz (out ++ [Y4 d to])=EN at *;simp[-getElem?_pos,Zt,ZI,-Yr,h0,h1,h6,h7,h8,h9,hg,hlt,hw1,hwl,e0,e4,el,htk,etk8,estr,c1,hgl,hl1,hnn,hcast,ed4,htkl,ell,c89,eI,eD,hcap,hcap2,c715,hsn,hEO2,hwo,hIs,mel,mes];apply ih (to ++ [(out.length:Int)]) (out ++ [Y4 d to]) _ (by simp[ht]) (by simp;omega)
    all_goals first | (simp[h0,h1,h7,hEN];done) | exact h
   ·have hgv:Xe dl.t d=true:=by unfold Xe;rw[c2,c1];rfl
    rw[c2]at c89;rw[hgv,Qn rfl]at h;simp[-getElem?_pos,Zt,ZI,-Yr,h0,h1,h6,h7,h8,h9,hg,hlt,hw1,hwl,e0,e4,el,htk,etk8,estr,c1,hgl,hl1,hnn,hcast,ed4,htkl,ell,c89,eI,hcap,hIs];apply ih (to ++ [(n1:Int)]) out _ (by simp[ht]) (by simp;omega)
    all_goals first | (simp[h0,h1,h6,h7,hEO];done) | exact h
  ·have hgv:Xe dl.t d=false:=by unfold Xe;simp[c1]
   rw[hgv]at h;simp only[Z3,Zd]at h;have hEO2: (EO ++ [QK (Y4 d to)]).length=out.length+1:=by simp[eD]
   rw[hsn]at hEO2;generalize hEM:QK (Y4 d to)=EM at *;generalize hEN:Qz (out ++ [Y4 d to])=EN at *;simp[-getElem?_pos,Zt,ZI,-Yr,h0,h1,h6,h7,h8,h9,hg,hlt,hw1,hwl,e0,e4,el,htk,etk8,estr,c1,eI,eD,hcap,hcap2,c715,hsn,hEO2,hwo,hIs,mel,mes];apply ih (to ++ [(out.length:Int)]) (out ++ [Y4 d to]) _ (by simp[ht]) (by simp;omega)
   all_goals first | (simp[h0,h1,h7,hEN];done) | exact h
def jnO (t:Tm) (dm:Ded) (l m:QQ):QQ:=if Xe t dm then l else(jnF t (l.length - 1) [] l m).2
def jnA (out:QQ):AV:=if 400 < out.length then .tup [.sl false 8 [],.int .i64 3]else .tup [.sl false 8 (Qz out),.int .i64 0]
def QeG (l m:QQ) (o o1:Bool) (bs:Qa) (h:l=[]\/m=[]):call tb 712 [.sl o 8 (Qz l),.sl o1 8 (Qz m)] bs=some (.tup [.sl false 8 [],.int .i64 8],bs):=by
 rw[zcc 712 rfl rfl];by_cases hl:l=[]
 ·subst hl;simp[f712C,Qz,Zw]
 ·have hm:m=[]:=h.resolve_left hl;subst hm;have hl0: ¬l.length=0:=fun e=>hl (YE e);have el:=XM l;generalize Qz l=L at *;have hL: ¬L=[]:=fun e=>hl0 (by rw[<- el,e];rfl);simp[f712C,Qz,Zw,el,hl0,hl,hL]
def QeH (l m:QQ) (o o1:Bool) (bs:Qa) (h:l=[]\/m=[]):call tb 714 [.sl o 8 (Qz l),.sl o1 8 (Qz m)] bs=some (.tup [.sl false 8 [],.int .i64 8],bs):=by
 rw[zcc 714 rfl rfl];by_cases hl:l=[]
 ·subst hl;simp[f714C,Qz,Zw]
 ·have hm:m=[]:=h.resolve_left hl;subst hm;have hl0: ¬l.length=0:=fun e=>hl (YE e);have el:=XM l;generalize Qz l=L at *;have hL: ¬L=[]:=fun e=>hl0 (by rw[<- el,e];rfl);simp[f714C,Qz,Zw,el,hl0,hl,hL]
def A7 (out:QQ) (bs:Qa) (ρ:Ql) (h6:ρ 6= .sl true 8 (Qz out)):R tb f712r0 ρ bs (QP f712 bs)=some (jnA out,bs):=by
 have el:=XM out;have hg:=P7 out;unfold jnA;generalize Qz out=E at *;by_cases c:400 < out.length
 ·have c2: (400:Int) < (out.length:Int):=by omega
  simp[f712r0,h6,el,c,c2,Zw]
 ·have c2: ¬(400:Int) < (out.length:Int):=by omega
  simp[f712r0,h6,el,c,c2,hg]
def QhU (l m:QQ) (dl dm:Ded) (o o1:Bool) (bs:Qa) (hdl:l[l.length - 1]? =some dl) (hdm:m[m.length - 1]? =some dm) (hl:l.length<=410) (hm:m.length<=410) (hlm:dl.t.mass < 1000000) (hac: ∀d∈m,d.a.length<=1000/\d.c.length<=1000/\d.t.mass < 1000000):
  call tb 712 [.sl o 8 (Qz l),.sl o1 8 (Qz m)] bs=some (jnA (jnO dl.t dm l m),bs):=by
 have hnl:l≠[]:=fun e=>by rw[e]at hdl;simp at hdl
 have hnm:m≠[]:=fun e=>by rw[e]at hdm;simp at hdm
 have hpl:0 < l.length:=UH.2 hnl;have hpm:0 < m.length:=UH.2 hnm;have hl0: ¬(l.length:Int)=0:=by omega
 have hm0: ¬(m.length:Int)=0:=by omega
 have hwl:IntKind.i64.wrap ((l.length:Int) - 1)=((l.length - 1:Nat):Int):=by rw[Zb (by omega) (by omega)];omega
 have hwm:IntKind.i64.wrap ((m.length:Int) - 1)=((m.length - 1:Nat):Int):=by rw[Zb (by omega) (by omega)];omega
 have hnn: (0:Int)<=((m.length - 1:Nat):Int):=by omega
 have hnnl: (0:Int)<=((l.length - 1:Nat):Int):=by omega
 have hcm: ((m.length - 1:Nat):Int).toNat=m.length - 1:=by omega
 have hcl: ((l.length - 1:Nat):Int).toNat=l.length - 1:=by omega
 have hgl: (Qz l)[l.length - 1]? =some (QK dl):=by rw[Yr,hdl];rfl
 have hgm: (Qz m)[m.length - 1]? =some (QK dm):=by rw[Yr,hdm];rfl
 obtain⟨_,_,m3⟩:=hac dm (WC hdm);have c350:=Tb dm.t dl.t bs (by unfold big;omega) (by unfold big;omega);have c595:=QhP l false bs (by omega);have ell:=XM l;have elm:=XM m;have e0:=Lq dm;have e4:=XE dm;have e4l:=XE dl;have htk: (Qf dm.t).take 4=Qf dm.t:=Qk dm.t;have htkl: (Qf dl.t).take 4=Qf dl.t:=Qk dl.t;have el:=Wo dm;have el2:=Wo dl;have estr: (QK dm).map AV.strip=QK dm:=TB dm;have etk8: (QK dm).take 8=QK dm:=Om dm;have hlp:=fun m' hm' hac' post X ρ=>QoX l m' dl bs hdl hnl hl hm' hlm hac' f712r0 (QP f712 bs) X post [] [] l ρ;have hnil:=hlp [] (by simp) (fun d hd=>by simp at hd) [];have hful:=hlp m hm hac m;rw[zcc 712 rfl rfl];unfold jnO;have hnL: ¬Qz l=[]:=fun e=>by rw[e]at ell;simp at ell;omega
 have hnM: ¬Qz m=[]:=fun e=>by rw[e]at elm;simp at elm;omega
 have e00:Qz []=[]:=rfl;by_cases c1:dm.r=1
 ·cases c2:decide (Qp dm.t dl.t=0)
  ·have hgv:Xe dl.t dm=false:=by unfold Xe;rw[c2];simp
   rw[c2]at c350;rw[hgv];simp only[Z3,Zd];generalize hEL:Qz l=EL at *;generalize hEM:Qz m=EM at *;generalize hEDm:QK dm=EDm at *;generalize hEDl:QK dl=EDl at *;generalize hn1:l.length - 1=n1 at *;generalize hm1:m.length - 1=m1 at *;simp[-getElem?_pos,Zt,ZI,f712C,ell,elm,hnl,hnm,hwl,hwm,hnn,hnnl,hcm,hcl,hgl,hgm,c595,e0,e4,e4l,htk,htkl,el,el2,estr,etk8,c1,c350];apply hful _ _ rfl rfl (by simp;omega)
   all_goals first | (simp[Q7];done) | skip
   intro ρ' b6;exact A7 _ bs ρ' b6
  ·have hgv:Xe dl.t dm=true:=by unfold Xe;rw[c2,c1];rfl
   rw[c2]at c350;rw[hgv,Qn rfl];generalize hEL:Qz l=EL at *;generalize hEM:Qz m=EM at *;generalize hEDm:QK dm=EDm at *;generalize hEDl:QK dl=EDl at *;generalize hn1:l.length - 1=n1 at *;generalize hm1:m.length - 1=m1 at *;simp[-getElem?_pos,Zt,ZI,f712C,ell,elm,hnl,hnm,hwl,hwm,hnn,hnnl,hcm,hcl,hgl,hgm,c595,e0,e4,e4l,htk,htkl,el,el2,estr,etk8,c1,c350];apply hnil _ _ rfl rfl (by simp;omega)
   all_goals first | (simp[Q7,e00];done) | skip
   intro ρ' b6;exact A7 _ bs ρ' b6
 ·have hgv:Xe dl.t dm=false:=by unfold Xe;simp[c1]
  rw[hgv];simp only[Z3,Zd];generalize hEL:Qz l=EL at *;generalize hEM:Qz m=EM at *;generalize hEDm:QK dm=EDm at *;generalize hEDl:QK dl=EDl at *;generalize hn1:l.length - 1=n1 at *;generalize hm1:m.length - 1=m1 at *;simp[-getElem?_pos,Zt,ZI,f712C,ell,elm,hnl,hnm,hwl,hwm,hnn,hnnl,hcm,hcl,hgl,hgm,c595,e0,e4,e4l,htk,htkl,el,el2,estr,etk8,c1];apply hful _ _ rfl rfl (by simp;omega)
  all_goals first | (simp[Q7];done) | skip
  intro ρ' b6;exact A7 _ bs ρ' b6
def Ij (t:Tm) (L1:Nat): ∀(m:QQ) (to:QJ) (out:QQ) (dm:Ded),m.getLast?=some dm->
  ∃v:Int,(jnF t L1 to out m).1.getLast?=some v/\(Xe t dm=true->v=L1)/\(Xe t dm=false->(out.length:Int)<=v)
 | [],to,out,dm,h=>by simp at h
 | [d],to,out,dm,h=>by
  simp only[List.getLast?_singleton,QD]at h;subst h;rcases Uh (Xe t d)with hg | hg
  ·simp[jnF,hg]
  ·simp[jnF,hg]
 | d:: e:: r,to,out,dm,h=>by
  have h2: (e:: r).getLast?=some dm:=by simpa using h
  rcases Uh (Xe t d)with hg | hg
  ·obtain⟨v,h3,h4,h5⟩:=Ij t L1 (e:: r) (to ++ [(L1:Int)]) out dm h2;refine⟨v,?_,h4,h5⟩;rw[jnF,hg,Qn rfl];exact h3
  ·obtain⟨v,h3,h4,h5⟩:=Ij t L1 (e:: r) (to ++ [(out.length:Int)]) (out ++ [Y4 d to]) dm h2;refine⟨v,?_,h4,fun h=> ?_⟩
   ·rw[jnF,hg];exact h3
   ·have:=h5 h;simp at this;omega
def FA:=@List.getLast?_eq_getElem?
def QhW (l m:QQ) (dl dm:Ded) (o o1:Bool) (bs:Qa) (hdl:l[l.length - 1]? =some dl) (hdm:m[m.length - 1]? =some dm) (hl:l.length<=410) (hm:m.length<=410) (hlm:dl.t.mass < 1000000) (hac: ∀d∈m,d.a.length<=1000/\d.c.length<=1000/\d.t.mass < 1000000):
  call tb 714 [.sl o 8 (Qz l),.sl o1 8 (Qz m)] bs=some (jnA (jnO dl.t dm l m),bs):=by
 have hnl:l≠[]:=fun e=>by rw[e]at hdl;simp at hdl
 have hnm:m≠[]:=fun e=>by rw[e]at hdm;simp at hdm
 have hpl:0 < l.length:=UH.2 hnl;have hpm:0 < m.length:=UH.2 hnm;have hl0: ¬(l.length:Int)=0:=by omega
 have hm0: ¬(m.length:Int)=0:=by omega
 have hwl:IntKind.i64.wrap ((l.length:Int) - 1)=((l.length - 1:Nat):Int):=by rw[Zb (by omega) (by omega)];omega
 have hwm:IntKind.i64.wrap ((m.length:Int) - 1)=((m.length - 1:Nat):Int):=by rw[Zb (by omega) (by omega)];omega
 have hnn: (0:Int)<=((m.length - 1:Nat):Int):=by omega
 have hnnl: (0:Int)<=((l.length - 1:Nat):Int):=by omega
 have hcm: ((m.length - 1:Nat):Int).toNat=m.length - 1:=by omega
 have hcl: ((l.length - 1:Nat):Int).toNat=l.length - 1:=by omega
 have hgl: (Qz l)[l.length - 1]? =some (QK dl):=by rw[Yr,hdl];rfl
 have ell:=XM l;have elm:=XM m;have e4l:=XE dl;have htkl: (Qf dl.t).take 4=Qf dl.t:=Qk dl.t;have el2:=Wo dl;have hcap:l.length*120<=140737488355328:=by omega
 have hlp:=fun X ρ=>QoY l m dl bs hdl hnl hl hm hlm hac f714r0 (QP f714 bs) X m [] [] l ρ rfl rfl (by simp;omega);obtain⟨v,v1,v2,v3⟩:=Ij dl.t (l.length - 1) m [] l dm (by rw[FA];exact hdm);obtain⟨q1,q2,q3⟩:=Ii dl.t (l.length - 1) m [] l;rw[FA,q2]at v1;simp only[Yz,Zk]at v1 q2;have hv: (Q7 (jnF dl.t (l.length - 1) [] l m).1)[m.length - 1]? =some [.int .i64 v]:=by rw[Vq,v1];rfl
 have elj:=XM (jnF dl.t (l.length - 1) [] l m).2;have hgj:=P7 (jnF dl.t (l.length - 1) [] l m).2;have hgpl:=P7 l;rw[zcc 714 rfl rfl];have e:jnA (jnO dl.t dm l m)=if Xe dl.t dm then jnA l else jnA (jnF dl.t (l.length - 1) [] l m).2:=by unfold jnO;split <;> rfl
 rw[e];generalize hJ1:Q7 (jnF dl.t (l.length - 1) [] l m).1=J1 at *;have hjA:jnA (jnF dl.t (l.length - 1) [] l m).2=if 400 < (jnF dl.t (l.length - 1) [] l m).2.length then .tup [.sl false 8 [],.int .i64 3]else .tup [.sl false 8 (Qz (jnF dl.t (l.length - 1) [] l m).2),.int .i64 0]:=rfl
 have hlA:jnA l=if 400 < l.length then .tup [.sl false 8 [],.int .i64 3]else .tup [.sl false 8 (Qz l),.int .i64 0]:=rfl
 rw[hjA,hlA];generalize hjl: (jnF dl.t (l.length - 1) [] l m).2.length=jl at *;generalize hJ2:Qz (jnF dl.t (l.length - 1) [] l m).2=J2 at *;generalize hEL:Qz l=EL at *;generalize hEM:Qz m=EM at *;generalize hEDl:QK dl=EDl at *;generalize hn1:l.length - 1=n1 at *;generalize hm1:m.length - 1=m1 at *;have hst: ∀o,AV.strip (.sl o 8 EL)= .sl false 8 EL:=fun _=>rfl;simp[-getElem?_pos,Zt,ZI,f714C,ell,elm,hnl,hnm,hwl,hnnl,hcl,hgl,e4l,htkl,el2,hcap];apply hlp
 all_goals first | (simp[Q7];done) | skip
 intro ρ' b0 b1 b6 b8;rcases Uh (Xe dl.t dm)with hg | hg
 ·have hvv:=v2 hg;subst hvv;rw[hg,Qn rfl];by_cases c:400 < l.length
  ·have c2: (400:Int) < (l.length:Int):=by omega
   simp[-getElem?_pos,Zt,ZI,f714r0,b0,b1,b6,b8,ell,elm,hwl,hwm,hnn,hcm,hv,hcap,c,c2,Zw]
  ·have c2: ¬(400:Int) < (l.length:Int):=by omega
   simp[-getElem?_pos,Zt,ZI,f714r0,b0,b1,b6,b8,ell,elm,hwl,hwm,hnn,hcm,hv,hcap,c,c2,hgpl]
 ·have hvv:=v3 hg;have hne: ¬v=(n1:Int):=by omega
  rw[hg];simp only[Z3,Zd];by_cases c:400 < jl
  ·have c2: (400:Int) < (jl:Int):=by omega
   simp[-getElem?_pos,Zt,ZI,f714r0,b0,b1,b6,b8,ell,elm,elj,hwl,hwm,hnn,hcm,hv,hne,c,c2,Zw]
  ·have c2: ¬(400:Int) < (jl:Int):=by omega
   simp[-getElem?_pos,Zt,ZI,f714r0,b0,b1,b6,b8,ell,elm,elj,hwl,hwm,hnn,hcm,hv,hne,c,c2,hgj]
def Qjw {ks:Qe} {l:QQ} {p:Nat} {x:Ded} (h:stB ks l p x=true) (hp:p<=l.length) (z:QQ):stB ks (l ++ z) p x=true:=by
 simp only[stB,Qo,Qv]at h ⊢;obtain⟨h1,h2,h3⟩:=h;refine⟨h1,h2,?_⟩;obtain⟨_,_,f3,_,_⟩:=SV h2;have:Wd (l ++ z) x=Wd l x:=by
  unfold Wd;refine Pi fun a ha=> ?_;have:=f3 a ha;rw[ZM (by omega)]
 rw[this];exact h3
def QoW (m:QQ) (t:Tm) (l:QQ) (hlt: ∃d,l[l.length - 1]? =some d/\d.t=t) (hfm:Nu 0 m=true):
  ∀(post pre:QQ) (to:QJ) (z:QQ),m=pre ++ post->to.length=pre.length->
   (∀j,j < pre.length->∃p:Nat,to.getD j 0=(p:Int)/\∃y,(l ++ z)[p]? =some y/\m[j]?.map Ded.t=some y.t)->
   (∀p x,l.length<=p->(l ++ z)[p]? =some x->JU m (l ++ z) p x/\Xe t x=false)->
   ∃z',(jnF t (l.length - 1) to (l ++ z) post).2=l ++ z'/\∀p x,l.length<=p->(l ++ z')[p]? =some x->JU m (l ++ z') p x/\Xe t x=false:=by
 intro post
 induction post with
 | nil=>
  intro pre to z hk ht hto hg;exact⟨z,rfl,hg⟩
 | cons d post IH=>
  intro pre to z hk ht hto hg;have hd:=Qx hk;have hpl: (pre ++ [d]).length=pre.length+1:=by simp
  have ih:=fun to z=>IH (pre ++ [d]) to z (by rw[hk];simp);rw[hpl]at ih;obtain⟨dl,hdl,hdt⟩:=hlt;have ext: ∀(v:Int) (z':QQ),(∀(p:Nat) (y:Ded),(l ++ z)[p]? =some y->(l ++ z')[p]? =some y)->(∃p:Nat,v=(p:Int)/\∃y,(l ++ z')[p]? =some y/\m[pre.length]?.map Ded.t=some y.t)->
    ∀j,j < pre.length+1->∃p:Nat,(to ++ [v]).getD j 0=(p:Int)/\∃y,(l ++ z')[p]? =some y/\m[j]?.map Ded.t=some y.t:=by
   intro v z' hz hv j hj;rcases QR j pre.length with hlt | hge
   ·obtain⟨p,h1,y,h2,h3⟩:=hto j hlt;refine⟨p,?_,y,hz p y h2,h3⟩;simp only[U8]at h1 ⊢;rw[ZM (by omega)];exact h1
   ·have:j=pre.length:=by omega
    subst this;obtain⟨p,h1,h2⟩:=hv;refine⟨p,?_,h2⟩;simp only[U8];rw[YS (by omega),ht];simpa using h1
  simp only[jnF];rcases Uh (Xe t d)with hgv | hgv
  ·rw[hgv,Qn rfl];refine ih _ z (by simp[ht]) (ext _ z (fun _ _ h=>h) ⟨l.length - 1,rfl,dl,by rw[ZM (RX hdl)];exact hdl,?_⟩) hg;rw[hd];unfold Xe at hgv;simp only[Qo,Qv]at hgv;rw[hdt,<- XR.1 hgv.2];rfl
  ·rw[hgv];simp only[Z3,Zd];have hz':l ++ z ++ [Y4 d to]=l ++ (z ++ [Y4 d to]):=by simp
   rw[hz'];have hmono: ∀(p:Nat) (y:Ded),(l ++ z)[p]? =some y->(l ++ (z ++ [Y4 d to]))[p]? =some y:=fun p y h=>by
    rw[<- hz',ZM (RX h)];exact h
   refine ih _ (z ++ [Y4 d to]) (by simp[ht]) (ext _ _ hmono ⟨(l ++ z).length,rfl,Y4 d to,by rw[<- hz'];exact YZ,by rw[hd];rfl⟩) ?_;intro p x hp hx;rcases QR p (l ++ z).length with hlt | hge
   ·rw[<- hz',ZM hlt]at hx;obtain⟨g1,g2⟩:=hg p x hp hx;refine⟨?_,g2⟩;rw[<- hz'];exact g1.app _ (by omega)
   ·have hp2:p=(l ++ z).length:=by
     have:=RX hx;simp only[Zo,ZL,Yz]at this hge ⊢;omega
    subst hp2;rw[<- hz',YZ]at hx;injection hx with hx
    subst hx;refine⟨⟨pre.length,d,hd,rfl,rfl,rfl,rfl,by simp[Y4],fun i a ha=> ?_⟩,hgv⟩;have hma:=WC ha;have hfa:=I1 hfm hd a hma;obtain⟨b,h1,y,h2,h3⟩:=hto a.toNat (by omega);refine⟨b,?_,RX h2,y,hmono b y h2,h3⟩;simp only[Y4,Wb,ha,QS];rw[QiP hfa.1 (by omega),h1]
def Ki (t:Tm) (L1:Nat): ∀(m:QQ) (to:QJ) (out:QQ) (dm:Ded),m.getLast?=some dm->Xe t dm=false->∃x,(jnF t L1 to out m).2.getLast?=some x/\x.t=dm.t
 | [],to,out,dm,h,_=>by simp at h
 | [d],to,out,dm,h,hg=>by
  simp only[List.getLast?_singleton,QD]at h;subst h;exact⟨Y4 d to,by simp[jnF,hg],rfl⟩
 | d:: e:: r,to,out,dm,h,hgd=>by
  have h2: (e:: r).getLast?=some dm:=by simpa using h
  rcases Uh (Xe t d)with hg | hg
  ·obtain⟨x,h3,h4⟩:=Ki t L1 (e:: r) (to ++ [(L1:Int)]) out dm h2 hgd;exact⟨x,by rw[jnF,hg,Qn rfl];exact h3,h4⟩
  ·obtain⟨x,h3,h4⟩:=Ki t L1 (e:: r) (to ++ [(out.length:Int)]) (out ++ [Y4 d to]) dm h2 hgd;exact⟨x,by rw[jnF,hg];exact h3,h4⟩
def QfK {k:Qe} {t:Tm} {x:Ded} (hn:0<=x.n) (hg:Xe t x=false) (A:Qe) (h:rtB (k ++ [t]) x A=true):rtB k x A=true:=by
 unfold rtB at h ⊢;by_cases c:x.r=1
 ·rw[Qn c]at h ⊢;rcases QR x.n.toNat k.length with hlt | hge
  ·rw[ZM hlt]at h;exact h
  ·exfalso;rw[YS hge]at h;cases hq: ([t]:Qe)[x.n.toNat - k.length]? with
   | none=>rw[hq]at h;cases h
   | some q=>
    rw[hq]at h;have:q=t:=by
     have:=WC hq;simpa using this
    subst this;simp only[Qv]at h;have e:=XR.1 h;unfold Xe at hg;rw[<- e,Vg]at hg;simp[c]at hg
 ·rw[Qm c]at h ⊢;exact h
def Bk {ks:Qe} {l:QQ} {t:Tm} (h:SS ks l t=true):l≠[]/\l.length<=400/\ks.length<=200/\Zs t=0/\VS l t=true/\ks.all (fun x=>decide (Zs x=0))=true/\Wq ks l 0 l=true:=by
 unfold SS at h;simp only[Qo,Us,Ph,U9,FO,Qv]at h;obtain⟨⟨⟨⟨⟨h1,h2⟩,h3⟩,h4⟩,h5⟩,h6,h7⟩:=h;exact⟨fun e=>h1 (by rw[e];rfl),by omega,by omega,h4,h5,h6,h7⟩
def QmX {ks:Qe} {l:QQ} {t:Tm} (h1:l≠[]) (h2:l.length<=400) (h3:ks.length<=200) (h4:Zs t=0) (h5:VS l t=true) (h6:ks.all (fun x=>decide (Zs x=0))=true) (h7:Wq ks l 0 l=true):SS ks l t=true:=by
 unfold SS;simp only[Qo,Us,Ph,U9,FO,Qv];exact⟨⟨⟨⟨⟨fun e=>h1 (YE e),by omega⟩,by omega⟩,h4⟩,h5⟩,h6,h7⟩
def QnA {k:Qe} {l m:QQ} {dl dm:Ded} (hdl:l[l.length - 1]? =some dl) (hdm:m[m.length - 1]? =some dm) (h1:SS k l dl.t=true) (h2:SS (k ++ [dl.t]) m dm.t=true) (hlen: (jnO dl.t dm l m).length<=400):
  SS k (jnO dl.t dm l m) dm.t=true:=by
 rcases Uh (Xe dl.t dm)with hg | hg
 ·unfold jnO;rw[hg,Qn rfl];unfold Xe at hg;simp only[Qo,Qv]at hg;rw[XR.1 hg.2];exact h1
 ·obtain⟨a1,a2,a3,a4,a5,a6,a7⟩:=Bk h1;obtain⟨b1,b2,b3,b4,b5,b6,b7⟩:=Bk h2;have e:jnO dl.t dm l m=(jnF dl.t (l.length - 1) [] l m).2:=by unfold jnO;rw[hg];rfl
  rw[e]at hlen ⊢;have hfm:Nu 0 m=true:=NU b7;obtain⟨z,z1,z2⟩:=QoW m dl.t l ⟨dl,hdl,rfl⟩ hfm m [] [] [] rfl rfl (fun j hj=>by simp at hj) (fun p x hp hx=>by
   have:=RX hx;simp at this;omega)
  rw[QN]at z1;obtain⟨x,x1,x2⟩:=Ki dl.t (l.length - 1) m [] l dm (by rw[FA];exact hdm) hg;have hst:=(NO k l l 0).1 a7;have hstm:=(NO (k ++ [dl.t]) m m 0).1 b7;simp only[Zk]at hst hstm;rw[z1]at hlen x1 ⊢;refine QmX (by intro e;rw[e]at x1;simp at x1) hlen a3 b4 ?_ a6 ((NO k _ _ 0).2 fun p y hy=> ?_)
  ·unfold VS;rw[x1];simp[x2,Vg]
  ·rw[Zk];rcases QR p l.length with hp | hp
   ·have hy2:=hy;rw[ZM hp]at hy2;exact Qjw (hst p y hy2) (by omega) z
   ·obtain⟨g1,g2⟩:=z2 p y hp hy;refine QiH g1 hstm fun A=>QfK ?_ g2 A;obtain⟨j,d,q1,_,q3,_⟩:=g1;have hs:=hstm j d q1;simp only[stB,Qo,Qv]at hs;obtain⟨_,_,_,f4,_⟩:=SV hs.2.1;unfold fNB at f4;simp only[Ph,U9]at f4;rw[q3];omega
def E9 {t:Tm} {L1:Nat}: ∀(m:QQ) (to:QJ) (out:QQ) (x:Ded),x∈(jnF t L1 to out m).2->x∈out\/∃d∈m,x.t=d.t/\x.a.length=d.a.length/\x.c=d.c
 | [],to,out,x,h=> .inl h
 | d:: r,to,out,x,h=>by
  simp only[jnF]at h;split at h
  ·rcases E9 r _ _ x h with h | ⟨e,he,h⟩
   ·exact .inl h
   ·exact .inr ⟨e,Pg _ he,h⟩
  ·rcases E9 r _ _ x h with h | ⟨e,he,h⟩
   ·rcases Wc.1 h with h | h
    ·exact .inl h
    ·rw[Vt.1 h];exact .inr ⟨d,by simp,rfl,by simp[Y4],rfl⟩
   ·exact .inr ⟨e,Pg _ he,h⟩
def QeE (l:Qe) (o:Bool) (bs:Qa) (hl:l.length<=1000000):call tb 407 [.sl o 4 (Qb l)] bs=some (.sl true 4 (Qb l),bs):=by
 have hb:l.length*56<=140737488355328:=by omega
 have hlen: (Qb l).length=l.length:=by simp[YW]
 rw[Wx tb_407];simp[XC,TA,hb,hlen]
def Il (k:Qe) (l m:QQ) (h0:call tb 633 [] []=some (.bool true,[])) (hl:l.length<=1172812402961) (hm:m.length<=1172812402961) (hr:Ai l) (hrm:Ai m):
  call tb 711 [.sl false 4 (Qb k),.agg [.sl false 8 (Qz l),.sl false 8 (Qz m)]] []=some (.bool true,[]):=by
 have h1:=QhT k l false false [] hl;have h2:=C9 m false [] hm;rw[zcc 711 rfl rfl];rcases Uh (few k 62 700 && Nq l)with hf | hf
 rotate_left
 ·rw[hf]at h1;simp[f711C,h0,h1]
 rw[hf]at h1;simp only[Qo]at hf;rcases Uh (Nq m)with hf2 | hf2
 rotate_left
 ·rw[hf2]at h2;simp[f711C,h0,h1,h2]
 rw[hf2]at h2;have hfd:=QgC hr hf.2;have hfm:=QgC hrm hf2;have hD:=QgA hf.1 hfd;have hDm:=QgA hf.1 hfm;have hll:=hfd.len;have hml:=hfm.len;obtain⟨k1,k2,k3⟩:=Kc (by omega) hf.1;by_cases hn:l=[]\/m=[]
 ·have c1:=QeG l m false false [] hn;have c2:=QeH l m false false [] hn;have c3:call tb 709 [.sl false 8 [],.sl false 8 []] []=some (.bool true,[]):=L3 [] false false [] (by simp) (fun d hd=>by simp at hd);generalize Qz l=EL at *;generalize Qz m=EM at *;simp[f711C,h0,h1,h2,c1,c2,c3]
 have hnl:l≠[]:=fun e=>hn (.inl e);have hnm:m≠[]:=fun e=>hn (.inr e);obtain⟨dl,e1,e2,e3⟩:=Ny hnl;obtain⟨dm,f1,f2,f3⟩:=Ny hnm;have hlm:=hD.tm dl e3;have hmm:=hDm.tm dm f3;have hacm: ∀d∈m,d.a.length<=1000/\d.c.length<=1000/\d.t.mass < 1000000:=fun d hd=>⟨(hfm.ac d hd).1,(hfm.ac d hd).2,hDm.tm d hd⟩;have c1:=QhU l m dl dm false false [] e2 f2 hll hml hlm hacm;have c2:=QhW l m dl dm false false [] e2 f2 hll hml hlm hacm;have hJm: ∀x∈jnO dl.t dm l m,x.a.length<=1000/\x.c.length<=1000/\x.t.mass < 1000000:=by
  intro x hx;have hL: ∀x∈l,x.a.length<=1000/\x.c.length<=1000/\x.t.mass < 1000000:=fun d hd=>⟨(hfd.ac d hd).1,(hfd.ac d hd).2,hD.tm d hd⟩;unfold jnO at hx;split at hx
  ·exact hL x hx
  ·rcases E9 m [] l x hx with h | ⟨d,hd,g1,g2,g3⟩
   ·exact hL x h
   ·have:=hacm d hd;rw[g1,g2,g3];exact this
 by_cases hbig:400 < (jnO dl.t dm l m).length
 ·have ej:jnA (jnO dl.t dm l m)= .tup [.sl false 8 [],.int .i64 3]:=Qn hbig;rw[ej]at c1 c2;have c3:call tb 709 [.sl false 8 [],.sl false 8 []] []=some (.bool true,[]):=L3 [] false false [] (by simp) (fun d hd=>by simp at hd);generalize Qz l=EL at *;generalize Qz m=EM at *;simp[f711C,h0,h1,h2,c1,c2,c3]
 have ej:jnA (jnO dl.t dm l m)= .tup [.sl false 8 (Qz (jnO dl.t dm l m)),.int .i64 0]:=Qm hbig;rw[ej]at c1 c2;have c3:=L3 (jnO dl.t dm l m) false false [] (by omega) fun d hd=>by have:=hJm d hd;omega
 have hpl:0 < l.length:=UH.2 hnl;have hpm:0 < m.length:=UH.2 hnm;have hwl:IntKind.i64.wrap ((l.length:Int) - 1)=((l.length - 1:Nat):Int):=by rw[Zb (by omega) (by omega)];omega
 have hwm:IntKind.i64.wrap ((m.length:Int) - 1)=((m.length - 1:Nat):Int):=by rw[Zb (by omega) (by omega)];omega
 have hnn: (0:Int)<=((m.length - 1:Nat):Int):=by omega
 have hnnl: (0:Int)<=((l.length - 1:Nat):Int):=by omega
 have hcm: ((m.length - 1:Nat):Int).toNat=m.length - 1:=by omega
 have hcl: ((l.length - 1:Nat):Int).toNat=l.length - 1:=by omega
 have hgl: (Qz l)[l.length - 1]? =some (QK dl):=by rw[Yr,e2];rfl
 have hgm: (Qz m)[m.length - 1]? =some (QK dm):=by rw[Yr,f2];rfl
 have e4:=XE dm;have e4l:=XE dl;have htk: (Qf dm.t).take 4=Qf dm.t:=Qk dm.t;have htkl: (Qf dl.t).take 4=Qf dl.t:=Qk dl.t;have el:=Wo dm;have el2:=Wo dl;have ell:=XM l;have elm:=XM m;have ekl: (Qb k).length=k.length:=by simp[YW]
 have hk200: ¬(200:Int)<=(k.length:Int):=by omega
 have c4:=C6 k l dl.t false false [] hD hlm;have c5:=QeE k false [] (by omega);have hkm:Qb k ++ [Qf dl.t]=Qb (k ++ [dl.t]):=by simp[YW]
 have hDk:O3 (k ++ [dl.t]) m:=⟨fun x hx=>by
  rcases Wc.1 hx with h | h
  ·exact hD.km x h
  ·rw[Vt.1 h];exact hlm,by simp;omega,hDm.tm,hDm.al,hDm.cl,hDm.ll⟩
 have c6:=fun o=>C6 (k ++ [dl.t]) m dm.t o false [] hDk hmm;have hcap: (k.length+1)*56<=140737488355328:=by omega
 have hDj:O3 k (jnO dl.t dm l m):=⟨hD.km,hD.kl,fun d hd=>(hJm d hd).2.2,fun d hd=>(hJm d hd).1,fun d hd=>(hJm d hd).2.1,by omega⟩;have c7:=Qhs k (jnO dl.t dm l m) dm.t false false [] hDj hmm;have hth:=fun a b=>QnA (k:=k) e2 f2 a b (by omega);generalize hEJ:Qz (jnO dl.t dm l m)=EJ at *;generalize Qz l=EL at *;generalize Qz m=EM at *;generalize QK dm=EDm at *;generalize QK dl=EDl at *;generalize hn1:l.length - 1=n1 at *;generalize hm1:m.length - 1=m1 at *;rcases Uh (SS k l dl.t)with hv1 | hv1
 rotate_left
 ·rw[hv1]at c4;simp[-getElem?_pos,Zt,ZI,f711C,h0,h1,h2,c1,c2,c3,ell,elm,hwl,hwm,hnn,hnnl,hcm,hcl,hgl,hgm,e4,e4l,htk,htkl,el,el2,ekl,hk200,c4]
 rw[hv1]at c4;rcases Uh (SS (k ++ [dl.t]) m dm.t)with hv2 | hv2
 rotate_left
 ·rw[hv2]at c6;generalize Qb (k ++ [dl.t])=EKT at *;simp[-getElem?_pos,Zt,ZI,f711C,h0,h1,h2,c1,c2,c3,ell,elm,hwl,hwm,hnn,hnnl,hcm,hcl,hgl,hgm,e4,e4l,htk,htkl,el,el2,ekl,hk200,c4,c5,hcap,hkm,c6]
 rw[hv2]at c6;rw[hth hv1 hv2]at c7;generalize Qb (k ++ [dl.t])=EKT at *;simp[-getElem?_pos,Zt,ZI,f711C,h0,h1,h2,c1,c2,c3,ell,elm,hwl,hwm,hnn,hnnl,hcm,hcl,hgl,hgm,e4,e4l,htk,htkl,el,el2,ekl,hk200,c4,c5,hcap,hkm,c6,c7]
def Dy {T:Vm} {K:Yo} (h:KLe K (call T)) {n:Nat}: ∀{c:AC} {σ:St} {x:Ex×St},ZD K n c σ=some x->run T c σ=some x:=by
 intro c
 induction c with
 | bad=>intro σ x he;simp[ZD]at he
 | skip=>intro σ x he;rw[DD];exact he
 | ret=>intro σ x he;rw[BM];exact he
 | exit id=>intro σ x he;rw[DA];exact he
 | reg d ops=>
  intro σ x he;rw[BL];simp only[ZD]at he;cases hr:Z9 K ops σ with
  | none=>rw[hr]at he;cases he
  | some s=>rw[TE h hr];rw[hr]at he;exact he
 | seq a b iha ihb=>
  intro σ x he;rw[BN];simp only[ZD]at he;cases ha:ZD K n a σ with
  | none=>rw[ha]at he;cases he
  | some p=>
   obtain⟨e,s⟩:=p;rw[ha]at he;rw[iha ha];cases e
   ·exact ihb he
   ·exact he
   ·exact he
 | cond c a b iha ihb=>
  intro σ x he;rw[Dz];simp only[ZD]at he;split at he
  ·rename_i hv;rw[hv];exact iha he
  ·rename_i hv;rw[hv];exact ihb he
  ·cases he
 | block id c ih=>
  intro σ x he;rw[He];simp only[ZD]at he;cases ha:ZD K n c σ with
  | none=>rw[ha]at he;cases he
  | some p=>rw[ha]at he;rw[ih ha];exact he
 | loop c ih=>
  intro σ x he;simp only[ZD]at he;have key: ∀(m:Nat) (σ:St) (x:Ex×St),Ts (ZD K n c) m σ=some x->run T (.loop c) σ=some x:=by
   intro m
   induction m with
   | zero=>intro σ x he;simp[Ts]at he
   | succ m IH=>
    intro σ x he;rw[DC];simp only[Ts]at he;cases ha:ZD K n c σ with
    | none=>rw[ha]at he;cases he
    | some p=>
     obtain⟨e,s⟩:=p;rw[ha]at he;rw[ih ha];cases e
     ·exact IH _ _ he
     ·exact he
     ·exact he
  exact key n σ x he
abbrev Q5:=Nat×List AV×List (List AV)×AV×List (List AV)
abbrev QI:=List Q5
def Jy:QI->Nat->Qh->Qa->Option (AV×Qa)
 | [],_,_,_=>none
 | (g,ar,b,v,b2):: fs,f,args,bs=>if(g == f && PB b bs && UF ar args)=true then some (v,b2)else Jy fs f args bs
def Lo (T:Vm) (fs:QI):Nat->Yo
 | 0,_,_,_=>none
 | n+1,f,args,bs=>match Jy fs f args bs with
  | some r=>some r
  | none=>match T f with
   | none=>none
   | some (.orc g)=>g args bs
   | some (.code fn)=>
    if args.length=fn.nparams then
     match ZD (Lo T fs n) n fn.body {env:=XB args,bs}with
     | some (.normal,σ)=>Xq fn bs σ
     | some (.ret,σ)=>Xq fn bs σ
     | _=>none
    else none
def RU (T:Vm):QI->Prop
 | []=>True
 | (g,ar,b,v,b2):: fs=>call T g ar b=some (v,b2)/\RU T fs
def Dd {T:Vm}: ∀{fs:QI},RU T fs->∀{f args bs r},Jy fs f args bs=some r->call T f args bs=some r
 | [],_,_,_,_,_,h=>by simp[Jy]at h
 | (g,ar,b,v,b2):: fs,hf,f,args,bs,r,h=>by
  simp only[Jy]at h;split at h
  ·rename_i c;simp only[Qo,V7]at c;obtain⟨⟨rfl,e2⟩,e⟩:=c;have e:=VE _ _ e;have e2:=OT _ _ e2;subst e;subst e2;cases h;exact hf.1
  ·exact Dd hf.2 h
def L4 {T:Vm} {fs:QI} (hf:RU T fs): ∀n,KLe (Lo T fs n) (call T)
 | 0,_,_,_,_,h=>by simp[Lo]at h
 | n+1,f,args,bs,r,h=>by
  simp only[Lo]at h;split at h
  ·rename_i r' hl;cases h;exact Dd hf hl
  ·rw[Ia];have ih:=L4 hf n;split at h
   ·cases h
   ·rename_i g hg;rw[hg];exact h
   ·rename_i fn hg;rw[hg];simp only;split at h
    ·rename_i hl;rw[Qn hl];split at h
     ·rename_i σ hr;rw[Dy ih hr];exact h
     ·rename_i σ hr;rw[Dy ih hr];exact h
     ·cases h
    ·cases h
end Go.Am
