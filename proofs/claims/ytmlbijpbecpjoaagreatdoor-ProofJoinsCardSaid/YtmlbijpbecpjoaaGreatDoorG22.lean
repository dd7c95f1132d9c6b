/-
  En41, En42, En43, En44, En45, En46, En47, En48, Kn1, Kn2, Kn3, Kn4, Kn22, Kn23, Kn24, Kn8, Kn5, Kn6.
-/
import Derived.Test.YtmlbijpbecpjoaaGreatDoorG21
set_option linter.all false
open Go.Am.F
namespace Go.Am
set_option maxRecDepth 20000
def ZW (l:Qj):Qj:=l.map fun q=>(q.1,-q.2)
def PI (l:Qj): (ZW l).length=l.length:=by simp[ZW]
def Qfl (B0:Qa) (l:Qj) (id:Nat) (t:Qh) (hl:l.length < 1000000) (hn: ∀q∈l,-100000000 < q.2/\q.2 < 100000000) (hid:B0.length<=id):
  ∀(post pre:Qj) (M:Qa) (ρ:Ql),l=pre ++ post->(B0 ++ M)[id]? =some (QW (ZW pre ++ post)++ t)->
   ρ 3= .gs id 0 5 l.length->ρ 8= .int .i64 l.length->ρ 9= .int .i64 pre.length->
  Fw (ZW l) B0 (R tb (.loop f363l0) ρ (B0 ++ M) (Qq 0 (QH tb f363r0 (QP f363 B0)))):=by
 intro post
 induction post with
 | nil=>
  intro pre M ρ hk hb h3 h8 h9;simp only[QN]at hk hb;subst hk;by_cases c:l.length=0
  ·have:l=[]:=YE c;subst this;refine⟨false,?_⟩;rw[Qg f363l0.eq_1];simp at h3;simp[h3,h8,h9,f363r0,Yk,QE,ZW]
  ·refine⟨true,?_⟩;have hle:l.length*5<=(QW (ZW l)++ t).length:=by rw[Zo,Xu,PI];omega
   have hch:ZX (QW (ZW l)++ t) 0 5 (ZW l).length=QE (ZW l):=Wh (f:=Zq) (k:=5) W3 VO (ZW l) t;rw[PI]at hch;have hgp:=Nm (ZW l);generalize QW (ZW l)++ t=RR at *;generalize QE (ZW l)=EE at *;rw[Qg f363l0.eq_1];simp[-getElem?_pos,h3,h8,h9,f363r0,Yk,c,hb,hle,hch,hgp,Wj hid]
 | cons q post IH=>
  intro pre M ρ hk hb h3 h8 h9;have hll:=QL hk;have hw1:=wr1 pre.length (by omega);have hlt:=QO hk;have hlt':pre.length < l.length:=by omega
  have hqb:=hn q (by rw[hk];simp);have hwn:IntKind.i64.wrap (-q.2)= -q.2:=Zb (by omega) (by omega);have hnl:=PI pre;have hq: (ZW pre ++ q:: post)[pre.length]? =some q:=by rw[YS (by omega),hnl];simp
  have hrd:=OY hq t;have hlen: (QW (ZW pre ++ q:: post)++ t).length=l.length*5+t.length:=by rw[Zo,Xu,Zo,hnl,hll,ZL]
  have hcell: (QW (ZW pre ++ q:: post)++ t)[pre.length*5+4]? =some (.int .i64 q.2):=by
   have h1: (((QW (ZW pre ++ q:: post)++ t).drop (pre.length*5)).take 5)[4]? =some (.int .i64 q.2):=by rw[hrd];simp
   rw[WB (by omega),XJ]at h1;exact h1
  have hle:pre.length*5+4+1<=(QW (ZW pre ++ q:: post)++ t).length:=by omega
  have hnew: (QW (ZW pre ++ q:: post)++ t).take (pre.length*5+4)++ (AV.int .i64 (-q.2):: (QW (ZW pre ++ q:: post)++ t).drop (pre.length*5+4+1))=QW (ZW (pre ++ [q])++ post)++ t:=by
   have e:ZW (pre ++ [q])++ post=ZW pre ++ (q.1,-q.2):: post:=by simp[ZW]
   rw[e];have h1:=R0 (f:=Zq) (k:=5) W3 (pre:=ZW pre) (q.1,-q.2) (rfl:ZW pre ++ q:: post=ZW pre ++ q:: post) t;rw[hnl]at h1;rw[show QW (ZW pre ++ (q.1,-q.2):: post)++ t=_ from h1.symm];have h2: (QW (ZW pre ++ q:: post)++ t).take (pre.length*5+4)=(QW (ZW pre ++ q:: post)++ t).take (pre.length*5)++ Qf q.1:=by
    rw[List.take_add];congr 1;have: ((QW (ZW pre ++ q:: post)++ t).drop (pre.length*5)).take 4=(((QW (ZW pre ++ q:: post)++ t).drop (pre.length*5)).take 5).take 4:=by rw[K0];rfl
    rw[this];rw[hrd];simp
   rw[h2];simp[Zq]
  have hB:=WQ hb;have hgs: ∀x:Qh,(B0 ++ M.set (id - B0.length) x)[id]? =some x:=fun x=>by
   rw[<- Wj hid,Y8,Qn rfl,Qn hB]
  have ih:=fun M ρ hb=>IH (pre ++ [q]) M ρ (by rw[hk];simp) hb;generalize QW (ZW (pre ++ [q])++ post)++ t=R2 at *;generalize QW (ZW pre ++ q:: post)++ t=R1 at *;rw[Qg f363l0.eq_1];simp[-getElem?_pos,Zf,Zt,ZI,h3,h8,h9,hlt,hb,hcell,hle,hwn,hw1,hnew,Wj hid];refine ih _ _ (hgs R2) ?_ ?_ ?_ <;> simp[h3,h8]
def Qhz (l:Qj) (o:Bool) (B0:Qa) (hl:l.length < 1000000) (hm: ∀q∈l,q.1.mass < big) (hn: ∀q∈l,-100000000 < q.2/\q.2 < 100000000):Fw (ZW l) B0 (call tb 363 [.sl o 5 (QE l)] B0):=by
 obtain⟨v,B,h1,M,id,sz,rfl,rfl,hc⟩:=CU l false B0 (by omega) hm;rw[zcc 363 rfl rfl];rcases hc with⟨rfl,rfl,rfl⟩ | ⟨rfl,hid,t,hb,hne⟩
 ·have e:QE []=[]:=rfl;rw[e]at h1;refine⟨true,?_⟩;have hN:ZW []=[]:=rfl;simp[f363C,h1,e,hN];rw[Qg f363l0.eq_1];simp[f363r0,Yk]
 ·have h:=fun ρ=>Qfl B0 l id t hl hn hid l [] M ρ rfl (by simpa[ZW]using hb);simp[f363C,h1];apply h <;> simp
def QdA (l:Qj) (bs:Qa) (hl:l.length < 1000000) (hn: ∀q∈l,-100000000 < q.2/\q.2 < 100000000):
  ∀(post pre:Qj) (o:Bool) (ρ:Ql),l=pre ++ post->ρ 0= .sl o 5 (QE l)->ρ 3= .sl true 5 (QE (ZW pre))->ρ 4= .int .i64 pre.length->
  R tb (.loop f319l0) ρ bs (Qq 0 (QH tb f319r0 (QP f319 bs)))=some (.sl false 5 (QE (ZW l)),bs):=by
 intro post
 induction post with
 | nil=>
  intro pre o ρ hk h0 h3 h4;simp only[QN]at hk;subst hk;rw[Qg f319l0.eq_1];simp[h0,h3,h4,f319r0]
 | cons q post IH=>
  intro pre o ρ hk h0 h3 h4;have hgt:=Qx hk;have hll:=QL hk;have hw1:=wr1 pre.length (by omega);have hlt:=QO hk;have hqb:=hn q (by rw[hk];simp);have hwn:IntKind.i64.wrap (-q.2)= -q.2:=Zb (by omega) (by omega);have hb: (pre.length+1)*64<=140737488355328:=NA (by omega);have hnl:=PI pre;have e1:Qf q.1 ++ [AV.int .i64 (-q.2)]=Zq (q.1,-q.2):=rfl;have e0: (Qf q.1 ++ [AV.int .i64 0]).drop 5=[]:=by simp[Zr]
  have e2:QE (ZW pre)++ [Zq (q.1,-q.2)]=QE (ZW (pre ++ [q])):=by simp[QE,ZW]
  have ih:=fun ρ=>IH (pre ++ [q]) o ρ (by rw[hk];simp);rw[Qg f319l0.eq_1];simp[-getElem?_pos,Zf,Zt,ZI,h0,h3,h4,hlt,hgt,hwn,hw1,hnl,hb,e0,e1,e2,Qk];apply ih <;> simp[h0]
def Qhp (l:Qj) (o:Bool) (bs:Qa) (hl:l.length < 1000000) (hn: ∀q∈l,-100000000 < q.2/\q.2 < 100000000):call tb 319 [.sl o 5 (QE l)] bs=some (.sl false 5 (QE (ZW l)),bs):=by
 have h:=fun ρ=>QdA l bs hl hn l [] false ρ rfl;rw[zcc 319 rfl rfl];simp[f319C];apply h <;> simp[QE,ZW]
def LA {t:Tm} (h:t.mass < 1000000):SmP (ofP t):=⟨by have:=S2 t;omega,fun q hq=>by have:=PG t t.mass (ZJ _) q hq;omega⟩
def DN {a b:Qj} (ha:SmP a) (hb:SmP b):SmP (XU a b):=⟨by have:=Kk a b;omega,fun q hq=>by
 have:=Ik (a:=a) (b:=b) (M:=999999) (fun q hq=>by have:=ha.2 q hq;omega) (fun q hq=>by have:=hb.2 q hq;omega) q hq;omega⟩
def QnF {t:Tm} (h:t.mass < 1000000): ∀q∈ofP t,-100000000 < q.2/\q.2 < 100000000:=fun q hq=>by
 unfold ofP at hq;split at hq
 ·have:=(M9 t [] 1 0 (by unfold big;omega) (.inl rfl) Km).bd q hq;have hn:=Yx t;omega
 ·cases hq
def Kt {a:Qj} (ha:SmP a):SmP (ZW a):=⟨by rw[PI];exact ha.1,fun q hq=>by
 obtain⟨p,hp,rfl⟩:=W8.1 hq;exact ha.2 p hp⟩
def Xp (l:Qe):Bool:=l.all fun t=>decide (ofE t=0)
def Xc (l:Qe):List Qj:=if Xp l then l.map ofP else []
def Ld {l:Qe} (h: ∀t∈l,t.mass < 1000000): ∀g∈Xc l,SmP g:=fun g hg=>by
 unfold Xc at hg;split at hg
 ·obtain⟨t,ht,rfl⟩:=W8.1 hg;exact LA (h t ht)
 ·cases hg
def NJ (l:Qe): (Xc l).length<=l.length:=by
 unfold Xc;split <;> simp
def Ae (l:Qe) (bs:Qa) (r:Out):Prop:=∃o,r=some (.tup [.sl o 1 (ZA (Xc l)),.bool (Xp l)],bs)
def Qje (l:Qe) (bs:Qa) (hl:l.length < 1000000) (hm: ∀t∈l,t.mass < 1000000):
  ∀(post pre:Qe) (o:Bool) (ρ:Ql),l=pre ++ post->Xp pre=true->ρ 4= .sl true 1 (ZA (pre.map ofP))->ρ 9= .sl o 4 (Qb l)->ρ 10= .int .i64 l.length->ρ 11= .int .i64 pre.length->
  Ae l bs (R tb (.loop f366l0) ρ bs (Qq 0 (QH tb f366r0 (QP f366 bs)))):=by
 intro post
 induction post with
 | nil=>
  intro pre o ρ hk hp h4 h9 h10 h11;simp only[QN]at hk;subst hk;have e:Xc l=l.map ofP:=by simp[Xc,hp]
  refine⟨false,?_⟩;rw[e,hp,Qg f366l0.eq_1];simp[h4,h9,h10,h11,f366r0]
 | cons t post IH=>
  intro pre o ρ hk hp h4 h9 h10 h11;have hgt:=Qx hk;have hll:=QL hk;have hw1:=wr1 pre.length (by omega);have hlt:=QO hk;have htm:=hm t (by rw[hk];simp);have hc:=RP t bs (by omega);have hb: (pre.length+1)*24<=140737488355328:=by omega
  rw[Qg f366l0.eq_1];by_cases c:ofE t=0
  ·have ih:=fun ρ=>IH (pre ++ [t]) o ρ (by rw[hk];simp) (by unfold Xp at hp ⊢;rw[Mq,hp];simp[c]);have e1:=RG (ofP t);have e2:ZA (pre.map ofP)++ ZA [ofP t]=ZA ((pre ++ [t]).map ofP):=by simp[ZA]
   simp[h4,h9,h10,h11,hlt,hgt,hc,c,hw1,hb,e1,e2];apply ih <;> simp[h9,h10]
  ·have ef:Xp l=false:=by
    unfold Xp;rw[List.all_eq_false];exact⟨t,by rw[hk];simp,by simpa using c⟩
   have e:Xc l=[]:=by simp[Xc,ef]
   refine⟨false,?_⟩;rw[e,ef];simp[h4,h9,h10,h11,hlt,hgt,hc,c,ZA]
def QhA (l:Qe) (o:Bool) (bs:Qa) (hl:l.length < 1000000) (hm: ∀t∈l,t.mass < 1000000):Ae l bs (call tb 366 [.sl o 4 (Qb l)] bs):=by
 have h:=fun ρ=>Qje l bs hl hm l [] false ρ rfl rfl;rw[zcc 366 rfl rfl];simp[f366C];apply h <;> simp[ZA]
def QfI (l:Qe) (bs:Qa) (hl:l.length < 1000000) (hm: ∀t∈l,t.mass < 1000000):
  ∀(post pre:Qe) (o:Bool) (ρ:Ql),l=pre ++ post->Xp pre=true->ρ 4= .sl true 1 (ZA (pre.map ofP))->ρ 0= .sl o 4 (Qb l)->ρ 5= .int .i64 pre.length->
  Ae l bs (R tb (.loop f391l0) ρ bs (Qq 0 (QH tb f391r0 (QP f391 bs)))):=by
 intro post
 induction post with
 | nil=>
  intro pre o ρ hk hp h4 h0 h5;simp only[QN]at hk;subst hk;have e:Xc l=l.map ofP:=by simp[Xc,hp]
  refine⟨false,?_⟩;rw[e,hp,Qg f391l0.eq_1];simp[h4,h0,h5,f391r0]
 | cons t post IH=>
  intro pre o ρ hk hp h4 h0 h5;have hgt:=Qx hk;have hll:=QL hk;have hw1:=wr1 pre.length (by omega);have hlt:=QO hk;have htm:=hm t (by rw[hk];simp);have hc:=RQ t bs (by omega);have hb: (pre.length+1)*24<=140737488355328:=by omega
  rw[Qg f391l0.eq_1];by_cases c:ofE t=0
  ·have ih:=fun ρ=>IH (pre ++ [t]) o ρ (by rw[hk];simp) (by unfold Xp at hp ⊢;rw[Mq,hp];simp[c]);have e1:=RG (ofP t);have e2:ZA (pre.map ofP)++ ZA [ofP t]=ZA ((pre ++ [t]).map ofP):=by simp[ZA]
   simp[h4,h0,h5,hlt,hgt,hc,c,hw1,hb,e1,e2];apply ih <;> simp[h0]
  ·have ef:Xp l=false:=by
    unfold Xp;rw[List.all_eq_false];exact⟨t,by rw[hk];simp,by simpa using c⟩
   have e:Xc l=[]:=by simp[Xc,ef]
   refine⟨false,?_⟩;rw[e,ef];simp[h4,h0,h5,hlt,hgt,hc,c,ZA]
def C7 (l:Qe) (o:Bool) (bs:Qa) (hl:l.length < 1000000) (hm: ∀t∈l,t.mass < 1000000):Ae l bs (call tb 391 [.sl o 4 (Qb l)] bs):=by
 have h:=fun ρ=>QfI l bs hl hm l [] false ρ rfl rfl;rw[zcc 391 rfl rfl];simp[f391C];apply h <;> simp[ZA]
def TH (t:Tm):Bool:=isB t EXP && decide (t.kids.length=2)
def Vx (t:Tm):Tm:=if TH t then kid t 0 else t
def Y2 (t:Tm):Qj:=if TH t then ofP (kid t 1)else []
def Rr {t:Tm} (h:t.kids.length=2):t.kids=[kid t 0,kid t 1]:=by
 cases hk:t.kids with
 | nil=>rw[hk]at h;simp at h
 | cons a r=>cases r with
  | nil=>rw[hk]at h;simp at h
  | cons b r2=>cases r2 with
   | nil=>simp[kid,hk]
   | cons c r3=>rw[hk]at h;simp at h
def RE (t:Tm): (Vx t).mass<=t.mass:=by
 unfold Vx;split
 ·exact UZ t 0
 ·exact ZJ _
def T7 {t:Tm} (h:t.mass < 1000000):SmP (Y2 t)/\∀q∈Y2 t,-100000000 < q.2/\q.2 < 100000000:=by
 unfold Y2;split
 ·have:=UZ t 1;exact⟨LA (by omega),QnF (by omega)⟩
 ·exact⟨⟨by simp,fun q h=>by cases h⟩,fun q h=>by cases h⟩
def QjK (t:Tm) (bs:Qa) (r:Out):Prop:=∃o,r=some (.tup [.agg (Qf (Vx t)),.sl o 5 (QE (Y2 t))],bs)
def C3 (t:Tm) (bs:Qa) (hm:t.mass < 1000000):QjK t bs (call tb 362 [.agg (Qf t)] bs):=by
 have h1:=C2 t EXP bs;have e1:=Zr t;rw[zcc 362 rfl rfl];unfold EXP at h1;simp only[isN]at h1;cases c:isB t [101,120,112]
 ·have eb:TH t=false:=by simp[TH,EXP,c]
  rw[c]at h1;refine⟨false,?_⟩;simp[f362C,h1,Vx,Y2,eb,QE,Qk]
 ·rw[c]at h1;by_cases c2:t.kids.length=2
  ·have eb:TH t=true:=by simp[TH,EXP,c,c2]
   have hk:=Rr c2;have km:=UZ t 1;have h2:=RP (kid t 1) bs (by omega);refine⟨false,?_⟩;have e2:Qb t.kids=[Qf (kid t 0),Qf (kid t 1)]:=by rw[hk];simp[Qb]
   rw[e2]at e1;simp only[e1]at h1 ⊢;simp[f362C,h1,h2,Vx,Y2,eb,Qk]
  ·have eb:TH t=false:=by simp[TH,c2]
   have c2': ¬(t.kids.length:Int)=2:=by omega
   refine⟨false,?_⟩;simp only[Vx,Y2,eb];simp only[e1]at h1 ⊢;simp[f362C,h1,c2',QE];exact e1.symm
def CX (t:Tm) (bs:Qa) (hm:t.mass < 1000000) (ha:isB t EXP=true->t.kids.length=2):QjK t bs (call tb 318 [.agg (Qf t)] bs):=by
 have h1:=Py t EXP bs;have e1:=Zr t;rw[zcc 318 rfl rfl];cases c:isB t EXP
 ·have eb:TH t=false:=by simp[TH,c]
  rw[c]at h1;unfold EXP at h1;refine⟨false,?_⟩;simp[f318C,h1,Vx,Y2,eb,QE,Qk]
 ·have c2:=ha c;have eb:TH t=true:=by simp[TH,c,c2]
  rw[c]at h1;unfold EXP at h1;have hk:=Rr c2;have km:=UZ t 1;have h2:=RQ (kid t 1) bs (by omega);refine⟨false,?_⟩;have e2:Qb t.kids=[Qf (kid t 0),Qf (kid t 1)]:=by rw[hk];simp[Qb]
  rw[e2]at e1;simp only[e1]at h1 ⊢;simp[f318C,h1,h2,Vx,Y2,eb,Qk]
def Lx (u a:Tm):Bool:=decide (Qp (Vx u) (Vx a)=0) && decide (W5 (Y2 u) (ZW (Y2 a))=0)
def Io (u a:Tm):Qj:=XU (Y2 u) (ZW (Y2 a))
def Qmx (u a:Tm) (bs:Qa) (r:Out):Prop:=∃o x,r=some (.tup [.sl o 5 x,.bool (Lx u a)],bs)/\(Lx u a=true->x=QE (Io u a))
def Qhr (u a:Tm) (bs:Qa) (hu:u.mass < 1000000) (ha:a.mass < 1000000) (h1:isB u EXP=true->u.kids.length=2) (h2:isB a EXP=true->a.kids.length=2):
  Qmx u a bs (call tb 340 [.agg (Qf u),.agg (Qf a)] bs):=by
 obtain⟨o1,b1⟩:=CX u bs hu h1;obtain⟨o2,b2⟩:=CX a bs ha h2;obtain⟨su,_⟩:=T7 hu;obtain⟨sa,na⟩:=T7 ha;have sn:=Kt sa;have h3:=fun o=>Qhp (Y2 a) o bs sa.1 na;have h4:=fun o o2=>CW (Y2 u) (ZW (Y2 a)) o o2 bs (by have:=su.1;omega) (by have:=sn.1;omega) su.big sn.big;have mu:=RE u;have ma:=RE a;have h5:=Y3 (Vx u) (Vx a) bs (by unfold big;omega) (by unfold big;omega);rw[zcc 340 rfl rfl];unfold Qmx Lx Io;by_cases c:Qp (Vx u) (Vx a)=0
 ·by_cases c2:W5 (Y2 u) (ZW (Y2 a))=0
  ·refine⟨false,QE (XU (Y2 u) (ZW (Y2 a))),?_,fun _=>rfl⟩;simp[f340C,b1,b2,h3,h4,h5,c,c2,Qk]
  ·refine⟨false,QE (XU (Y2 u) (ZW (Y2 a))),?_,fun _=>rfl⟩;simp[f340C,b1,b2,h3,h4,h5,c,c2,Qk]
 ·refine⟨false,[],?_,fun h=>by simp[c]at h⟩;simp[f340C,b1,b2,h3,h4,h5,c,Qk]
def C4 (l:Qe) (m:Qj) (c:QJ) (o o2 o3:Bool) (bs:Qa) (hl:l.length < 1000000) (hm: ∀t∈l,t.mass < 1000000) (hs:SmP m) (hc:c.length < 1000000):
  call tb 365 [.sl o 4 (Qb l),.sl o2 5 (QE m),.sl o3 1 (Q7 c)] bs=some (.bool (Xp l && Ry (Xc l) m c),bs):=by
 obtain⟨o4,h1⟩:=QhA l false bs hl hm;have h2:=fun o o2 o3=>QhB (Xc l) m c o o2 o3 bs (by have:=NJ l;omega) (Ld hm) hs hc;rw[zcc 365 rfl rfl];cases k:Xp l
 ·rw[k]at h1;simp[f365C,h1]
 ·rw[k]at h1;generalize Ry (Xc l) m c=X at *;simp[f365C,h1,h2]
def F0 (d:Ded) (a:Qe):Bool:=
 if d.r=14 then decide ((WA a).2=0) && decide (Qp (WA a).1 d.t=0)
 else if d.r=15 then Lx d.t (a.headD QG) && (Xp a.tail && Ry (Xc a.tail) (Io d.t (a.headD QG)) d.c)
 else decide (ofE d.t=0) && (Xp a && Ry (Xc a) (ofP d.t) d.c)
def EK (x:Tm×Int):Zm x= .tup [.agg (Qf x.1),.int .i64 x.2]:=rfl
def KZ:=@List.headD_cons
def Qhy (d:Ded) (a:Qe) (o:Bool) (bs:Qa) (hd:d.t.mass < 1000000) (ha: ∀x∈a,x.mass < 1000000) (hal:a.length < 10000) (hml:Qt a < 20000000) (hc:d.c.length < 1000000) (h15:d.r=15->a≠[]):
  call tb 361 [.agg (QK d),.sl o 4 (Qb a)] bs=some (.bool (F0 d a),bs):=by
 have hdb:d.t.mass < big:=by unfold big;omega
 rw[zcc 361 rfl rfl];unfold F0;by_cases r14:d.r=14
 ·have h1:=fun o=>Ed a o bs (by omega) (by omega);simp only[EK]at h1;have h2:=Tb (WA a).1 d.t bs (by have:=M5 a;unfold big;omega) hdb;generalize WA a=S at *;obtain⟨s1,s2⟩:=S;simp only at h1 h2 ⊢;by_cases c:s2=0
  ·simp[f361C,r14,h1,h2,c,Qk]
  ·simp[f361C,r14,h1,c,Qk]
 ·by_cases r15:d.r=15
  ·cases a with
   | nil=>exact absurd rfl (h15 r15)
   | cons a0 r=>
    have ham:=ha a0 (by simp);obtain⟨o1,b1⟩:=C3 d.t bs hd;obtain⟨o2,b2⟩:=C3 a0 bs ham;obtain⟨su,_⟩:=T7 hd;obtain⟨sa,na⟩:=T7 ham;have sn:=Kt sa;obtain⟨o3,b3⟩:=Qhz (Y2 a0) false bs sa.1 sa.big na;have h4:=fun o o2=>CT (Y2 d.t) (ZW (Y2 a0)) o o2 bs (by have:=su.1;omega) (by have:=sn.1;omega) su.big sn.big;have mu:=RE d.t;have ma:=RE a0;have h5:=Tb (Vx d.t) (Vx a0) bs (by unfold big;omega) (by unfold big;omega);have h6:=fun o o2 o3=>C4 r (XU (Y2 d.t) (ZW (Y2 a0))) d.c o o2 o3 bs (by simp at hal;omega) (fun x hx=>ha x (by simp[hx])) (DN su sn) hc;have e1:Qb (a0:: r)=Qf a0:: Qb r:=rfl;have htk: (Qb r).take r.length=Qb r:=Yy (by simp[YW]);have h1r: (1:Int)<=(r.length:Int)+1:=by omega
    simp only[KZ,List.tail_cons,Lx,Io,r14,r15,Zd,Zl];generalize (Xp r && Ry (Xc r) (XU (Y2 d.t) (ZW (Y2 a0))) d.c)=X at *;by_cases c:Qp (Vx d.t) (Vx a0)=0
    ·by_cases c2:W5 (Y2 d.t) (ZW (Y2 a0))=0
     ·simp[f361C,r15,b1,b2,b3,h4,h5,h6,c,c2,e1,htk,h1r,Qk]
     ·simp[f361C,r15,b1,b2,b3,h4,h5,c,c2,e1,htk,h1r,Qk]
    ·simp[f361C,r15,b1,b2,b3,h4,h5,c,e1,Qk]
  ·have h1:=RP d.t bs (by omega);have h6:=fun o o2 o3=>C4 a (ofP d.t) d.c o o2 o3 bs (by omega) ha (LA hd) hc;simp only[r14,r15,Zd];generalize (Xp a && Ry (Xc a) (ofP d.t) d.c)=X at *;by_cases c:ofE d.t=0
   ·simp[f361C,r14,r15,h1,h6,c,Qk]
   ·simp[f361C,r14,r15,h1,c,Qk]
def QhM (d:Ded) (a:Qe) (o:Bool) (bs:Qa) (hr:d.r=14\/d.r=15\/d.r=16) (hd:d.t.mass < 1000000) (ha: ∀x∈a,x.mass < 1000000) (hal:a.length < 10000) (hml:Qt a < 20000000) (hc:d.c.length < 1000000) (h15:d.r=15->a≠[])
  (hdk:isB d.t EXP=true->d.t.kids.length=2) (hak: ∀x∈a,isB x EXP=true->x.kids.length=2):
  call tb 390 [.agg (QK d),.sl o 4 (Qb a)] bs=some (.bool (F0 d a),bs):=by
 have hdb:d.t.mass < big:=by unfold big;omega
 rw[zcc 390 rfl rfl];unfold F0;by_cases r14:d.r=14
 ·have h1:=fun o=>Ja a o bs (by omega) (by omega);simp only[EK]at h1;have h2:=Y3 (WA a).1 d.t bs (by have:=M5 a;unfold big;omega) hdb;generalize WA a=S at *;obtain⟨s1,s2⟩:=S;simp only at h1 h2 ⊢;by_cases c:s2=0
  ·simp[f390C,r14,h1,h2,c,Qk]
  ·simp[f390C,r14,h1,c,Qk]
 ·by_cases r15:d.r=15
  ·cases a with
   | nil=>exact absurd rfl (h15 r15)
   | cons a0 r=>
    have ham:=ha a0 (by simp);obtain⟨o1,x,b1,hx⟩:=Qhr d.t a0 bs hd ham hdk (hak a0 (by simp));obtain⟨su,_⟩:=T7 hd;obtain⟨sa,na⟩:=T7 ham;have sn:=Kt sa;obtain⟨o4,b4⟩:=C7 r false bs (by simp at hal;omega) (fun x hx=>ha x (by simp[hx]));have hpl:=NJ r;have h6:=fun o o2 o3=>C8 (Xc r) (Io d.t a0) d.c o o2 o3 bs (by simp at hal;omega) (Ld fun x hx=>ha x (by simp[hx])) (DN su sn) hc;have e1:Qb (a0:: r)=Qf a0:: Qb r:=rfl;have htk: (Qb r).take r.length=Qb r:=Yy (by simp[YW]);have h1r: (1:Int)<=(r.length:Int)+1:=by omega
    simp only[KZ,List.tail_cons,r14,r15,Zd,Zl];cases q:Lx d.t a0
    ·rw[q]at b1;cases p:Xp r
     ·rw[p]at b4;simp[f390C,r15,b1,b4,e1,htk,h1r,Qk]
     ·rw[p]at b4;simp[f390C,r15,b1,b4,e1,htk,h1r,Qk]
    ·rw[q]at b1;rw[hx q]at b1;cases p:Xp r
     ·rw[p]at b4;simp[f390C,r15,b1,b4,e1,htk,h1r,Qk]
     ·rw[p]at b4;generalize Ry (Xc r) (Io d.t a0) d.c=X at *;simp[f390C,r15,b1,b4,h6,e1,htk,h1r,Qk]
  ·have r16:d.r=16:=by omega
   have h1:=RQ d.t bs (by omega);obtain⟨o4,b4⟩:=C7 a false bs (by omega) ha;have hpl:=NJ a;have h6:=fun o o2 o3=>C8 (Xc a) (ofP d.t) d.c o o2 o3 bs (by omega) (Ld ha) (LA hd) hc;simp only[r14,r15,Zd];cases p:Xp a
   ·rw[p]at b4;simp[f390C,r16,h1,b4,Qk]
   ·rw[p]at b4;generalize Ry (Xc a) (ofP d.t) d.c=X at *;by_cases c:ofE d.t=0
    ·simp[f390C,r16,h1,b4,h6,c,Qk]
    ·simp[f390C,r16,h1,b4,c,Qk]
def RL {t:Tm} (h:Zs t=0):Zh t=true/\t.mass<=13200:=by
 unfold Zs at h;by_cases c:thV t=0
 ·obtain⟨_,_,h3,h4,_⟩:=Is c;exact⟨h3,h4⟩
 ·simp[c]at h
def Bz {t:Tm} (hg:Zh t=true) (hk:t.kind=3):t.sort=0/\Yv t.name t.kids.length=true:=by
 rw[Ke]at hg;simp[hk]at hg;exact hg.1
def Qgg (n:Qu):Prop:=n=Yu\/n=ENC\/n=Xi\/n=YL\/n=EXP
def gd2 {t:Tm} {n:Qu} (hg:Zh t=true) (h:isB t n=true) (hn:Qgg n):t.kids.length=2/\t.sort=0:=by
 obtain⟨h1,rfl⟩:=TX.1 h;obtain⟨h2,h3⟩:=Bz hg h1;refine⟨?_,h2⟩;unfold Yv at h3;rw[Qn (by unfold Qgg at hn;rcases hn with h | h | h | h | h <;> simp[h])]at h3;simpa using h3
def gdp {t:Tm} (hg:Zh t=true) (h:isB t PK=true):t.kids.length=1/\t.sort=0:=by
 obtain⟨h1,h4⟩:=TX.1 h;obtain⟨h2,h3⟩:=Bz hg h1;refine⟨?_,h2⟩;rw[h4]at h3;simpa[Yv,PK,Yu,ENC,Xi,YL,EXP,DEC,Ya,Yt]using h3
def Qea (t:Tm):t= .mk t.kind t.name t.sort t.kids:=by cases t;rfl
def Bj {t u v:Tm} {n:Qu} (hg:Zh t=true) (hn:Qgg n):decide (Qp t (.mk 3 n 0 [u,v])=0)=(WJ t n 0 u && decide (Qp (kid t 1) v=0)):=by
 rw[FU];unfold WJ;cases c:isB t n
 ·simp only[isN,c,K1,Qv,XR,Z3,iff_false];intro e;subst e;simp[isB]at c
 ·obtain⟨h1,h2⟩:=gd2 hg c hn;obtain⟨h3,h4⟩:=TX.1 c;have hk:=Rr h1;have e:t= .mk 3 n 0 [kid t 0,kid t 1]:=by
   have:=Qea t;rw[h3,h4,h2,hk]at this;exact this
  have e0:t.kids[0]? =some (kid t 0):=by rw[hk];rfl
  simp only[isN,c,e0,VL,Qo,Qv,XR];constructor
  ·intro h;rw[e]at h;injection h with _ _ _ h
   injection h with ha h
   injection h with hb h
   exact⟨ha,hb⟩
  ·rintro⟨ha,hb⟩
   rw[ha,hb]at e;exact e
def QmW {t v:Tm} (hg:Zh t=true):decide (Qp t (.mk 3 PK 0 [v])=0)=WJ t PK 0 v:=by
 rw[FU];unfold WJ;cases c:isB t PK
 ·simp only[isN,c,K1,Qv,XR,Z3,iff_false];intro e;subst e;simp[isB]at c
 ·obtain⟨h1,h2⟩:=gdp hg c;obtain⟨h3,h4⟩:=TX.1 c;cases hk:t.kids with
  | nil=>rw[hk]at h1;simp at h1
  | cons a r=>
   cases r with
   | cons b r2=>rw[hk]at h1;simp at h1
   | nil=>
    have e:t= .mk 3 PK 0 [a]:=by
     have:=Qea t;rw[h3,h4,h2,hk]at this;exact this
    simp only[isN,c,Zt,VL,Qv,XR];constructor
    ·intro h;rw[e]at h;injection h with _ _ _ h
     injection h
    ·intro h;rw[h]at e;exact e
def rtB (ks:Qe) (d:Ded) (a:Qe):Bool:=
 if d.r=1 then(match ks[d.n.toNat]? with | some k=>decide (Qp k d.t=0) | none=>false)
 else if d.r=2 then Tt d.t
 else if d.r=3\/d.r=6\/d.r=8\/d.r=10\/d.r=11\/d.r=13 then decide (Qp d.t (.mk 3 (XP d.r) 0 a)=0)
 else if d.r=4 then WJ (a.headD QG) Yu 0 d.t
 else if d.r=5 then WJ (a.headD QG) Yu 1 d.t
 else if d.r=12 then WJ (a.headD QG) YL 0 d.t
 else if d.r=7 then WJ (a.headD QG) ENC 0 d.t && decide (Qp (kid (a.headD QG) 1) (a.getD 1 QG)=0)
 else if d.r=9 then WJ (a.headD QG) Xi 0 d.t && WJ (kid (a.headD QG) 1) PK 0 (a.getD 1 QG)
 else F0 d a
structure AOk (d:Ded) (a:List Tm):Prop where
 ok:rOk d.r=true
 n0:0<=d.n
 n1:d.n<=1000000
 len:0<=Xg d.r->(a.length:Int)=Xg d.r
 p15:d.r=15->a≠[]
 al:a.length < 10000
 ml:Qt a < 20000000
 good: ∀x∈a,Zs x=0
 td:Zs d.t=0
 cl:d.c.length < 1000000
def AOk.gd {d:Ded} {a:Qe} (h:AOk d a): ∀x∈a,Zh x=true/\x.mass < 1000000:=fun x hx=>by
 obtain⟨h1,h2⟩:=RL (h.good x hx);exact⟨h1,by omega⟩
def AOk.tm {d:Ded} {a:Qe} (h:AOk d a):d.t.mass < 1000000:=by have:=(RL h.td).2;omega
def AOk.one {d:Ded} {a:Qe} (h:AOk d a) (hr:Xg d.r=1): ∃x,a=[x]:=by
 have:=h.len (by omega);rw[hr]at this;cases a with
 | nil=>simp at this
 | cons x r=>cases r with
  | nil=>exact⟨x,rfl⟩
  | cons y r2=>simp at this;omega
def AOk.two {d:Ded} {a:Qe} (h:AOk d a) (hr:Xg d.r=2): ∃x y,a=[x,y]:=by
 have:=h.len (by omega);rw[hr]at this;cases a with
 | nil=>simp at this
 | cons x r=>cases r with
  | nil=>simp at this
  | cons y r2=>cases r2 with
   | nil=>exact⟨x,y,rfl⟩
   | cons z r3=>simp at this;omega
def Qe2 (w:Qu) (a:Qe):Qf (.mk 3 w 0 a)=[.int .i64 3,.str w,.int .i64 0,.sl false 4 (Qb a)]:=by simp[Qf]
def Qpd (ks:Qe) (d:Ded) (a:Qe) (bs:Qa) (h:AOk d a) (hks: ∀x∈ks,x.mass < 1000000) (hkl:ks.length < 1000000) (o:Bool) (ρ:Ql)
  (h0:ρ 0= .sl o 4 (Qb ks)) (h7:ρ 7= .bx (QK d)) (h8:ρ 8= .sl true 4 (Qb a)):
  R tb f351r0 ρ bs (QP f351 bs)=some (.bool (rtB ks d a),bs):=by
 have htm:=h.tm;have htb:d.t.mass < big:=by unfold big;omega
 have gd:=h.gd;have hml:=h.ml;have hal:=h.al;unfold rtB;by_cases r1:d.r=1
 ·simp only[r1,Zl];have hn:=h.n0;cases hk:ks[d.n.toNat]? with
  | none=>
   have hle:ks.length<=d.n.toNat:=by
    rcases QR d.n.toNat ks.length with h | h
    ·rw[Zv h]at hk;cases hk
    ·exact h
   have hlt: ¬d.n < (ks.length:Int):=by omega
   simp[-getElem?_pos,Zf,f351r0,h0,h7,h8,r1,hlt,Qk]
  | some k=>
   have hlt2:=(V4.1 hk).1;have hlt:d.n < (ks.length:Int):=by omega
   have h2:=Tb k d.t bs (by have:=hks k (WC hk);unfold big;omega) htb;simp[-getElem?_pos,Zf,f351r0,h0,h7,h8,r1,hlt,hn,hk,h2,Qk]
 ·by_cases r2:d.r=2
  ·have h2:=QgW d.t bs htm;simp[f351r0,h0,h7,h8,r2,h2,Qk]
  ·have c353:=CZ d.r bs;have hwl: (XP d.r).length<=7:=by
    rcases Ru h.ok with e | e | e | e | e | e | e | e | e | e | e | e | e | e | e | e <;> rw[e] <;> decide
   have hc:=Tb d.t (.mk 3 (XP d.r) 0 a) bs htb (by rw[QF];simp only[Zx,Z7];unfold big;omega);rw[Qe2]at hc;by_cases r3:d.r=3\/d.r=6\/d.r=8\/d.r=10\/d.r=11\/d.r=13
   ·simp only[r1,r2,r3,Zl,Zd];generalize XP d.r=w at *;generalize Xg d.r=n at *;rcases r3 with e | e | e | e | e | e <;> (rw[e]at c353;simp[f351r0,h0,h7,h8,e,c353,hc,Qk])
   ·simp only[r1,r2,r3,Zd];clear hc c353;by_cases r4:d.r=4
    ·obtain⟨x,rfl⟩:=h.one (by rw[r4];rfl);obtain⟨g1,g2⟩:=gd x (by simp);have h2:=RT x Yu 0 d.t bs (fun hb=>by have:=(gd2 g1 hb (.inl rfl)).1;omega) (by unfold big;omega) htb (by omega);rw[show((0:Nat):Int)=0 from rfl]at h2;unfold Yu at h2 ⊢;simp[f351r0,h0,h7,h8,r4,h2,Qb,Qk]
    ·by_cases r5:d.r=5
     ·obtain⟨x,rfl⟩:=h.one (by rw[r5];rfl);obtain⟨g1,g2⟩:=gd x (by simp);have h2:=RT x Yu 1 d.t bs (fun hb=>by have:=(gd2 g1 hb (.inl rfl)).1;omega) (by unfold big;omega) htb (by omega);rw[show((1:Nat):Int)=1 from rfl]at h2;unfold Yu at h2 ⊢;simp[f351r0,h0,h7,h8,r5,h2,Qb,Qk]
     ·by_cases r12:d.r=12
      ·obtain⟨x,rfl⟩:=h.one (by rw[r12];rfl);obtain⟨g1,g2⟩:=gd x (by simp);have h2:=RT x YL 0 d.t bs (fun hb=>by have:=(gd2 g1 hb (.inr (.inr (.inr (.inl rfl))))).1;omega) (by unfold big;omega) htb (by omega);rw[show((0:Nat):Int)=0 from rfl]at h2;unfold YL at h2 ⊢;simp[f351r0,h0,h7,h8,r12,h2,Qb,Qk]
      ·by_cases r7:d.r=7
       ·obtain⟨x,y,rfl⟩:=h.two (by rw[r7];rfl);obtain⟨g1,g2⟩:=gd x (by simp);obtain⟨g3,g4⟩:=gd y (by simp);have h2:=RT x ENC 0 d.t bs (fun hb=>by have:=(gd2 g1 hb (.inr (.inl rfl))).1;omega) (by unfold big;omega) htb (by omega);have h3:=Tb (kid x 1) y bs (by have:=UZ x 1;unfold big;omega) (by unfold big;omega);simp only[r4,r5,r12,r7,Zd,Zl,KZ];rw[show((0:Nat):Int)=0 from rfl]at h2;cases c:WJ x ENC 0 d.t
        ·rw[c]at h2;unfold ENC at h2;simp[f351r0,h0,h7,h8,r7,h2,Qb,Qk]
        ·rw[c]at h2;have hb:isB x ENC=true:=by
          unfold WJ at c;simp only[Qo]at c;exact c.1
         have hk:=Rr (gd2 g1 hb (.inr (.inl rfl))).1;have e1:=Zr x;have e2:Qb x.kids=[Qf (kid x 0),Qf (kid x 1)]:=by rw[hk];simp[Qb]
         rw[e2]at e1;unfold ENC at h2;simp only[e1]at h2;simp[f351r0,h0,h7,h8,r7,h2,h3,Qb,e1,Qk]
       ·by_cases r9:d.r=9
        ·obtain⟨x,y,rfl⟩:=h.two (by rw[r9];rfl);obtain⟨g1,g2⟩:=gd x (by simp);obtain⟨g3,g4⟩:=gd y (by simp);have h2:=RT x Xi 0 d.t bs (fun hb=>by have:=(gd2 g1 hb (.inr (.inr (.inl rfl)))).1;omega) (by unfold big;omega) htb (by omega);have h3:=RT (kid x 1) PK 0 y bs (fun hb=>by have:=(gdp (PC g1 1) hb).1;omega) (by have:=UZ x 1;unfold big;omega) (by unfold big;omega) (by omega);simp only[r4,r5,r12,r7,r9,Zd,Zl,KZ];rw[show((0:Nat):Int)=0 from rfl]at h2 h3;cases c:WJ x Xi 0 d.t
         ·rw[c]at h2;unfold Xi at h2;simp[f351r0,h0,h7,h8,r9,h2,Qb,Qk]
         ·rw[c]at h2;have hb:isB x Xi=true:=by
           unfold WJ at c;simp only[Qo]at c;exact c.1
          have hk:=Rr (gd2 g1 hb (.inr (.inr (.inl rfl)))).1;have e1:=Zr x;have e2:Qb x.kids=[Qf (kid x 0),Qf (kid x 1)]:=by rw[hk];simp[Qb]
          rw[e2]at e1;unfold Xi at h2;unfold PK at h3 ⊢;simp only[e1]at h2;simp[f351r0,h0,h7,h8,r9,h2,h3,Qb,e1,Qk]
        ·have h2:=Qhy d a false bs htm (fun x hx=>(gd x hx).2) h.al h.ml h.cl h.p15;simp only[r4,r5,r12,r7,r9,Zd];have q3: ¬d.r=3:=fun e=>r3 (.inl e);have q6: ¬d.r=6:=fun e=>r3 (.inr (.inl e));have q8: ¬d.r=8:=fun e=>r3 (.inr (.inr (.inl e)));have q10: ¬d.r=10:=fun e=>r3 (.inr (.inr (.inr (.inl e))));have q11: ¬d.r=11:=fun e=>r3 (.inr (.inr (.inr (.inr (.inl e)))));have q13: ¬d.r=13:=fun e=>r3 (.inr (.inr (.inr (.inr (.inr e)))));simp[f351r0,h0,h7,h8,r1,r2,q3,q6,q8,q10,q11,q13,r4,r5,r12,r7,r9,h2,Qk]
def Wd (l:QQ) (d:Ded):Qe:=d.a.map fun n=>((l[n.toNat]?).map Ded.t).getD QG
def SV {d:Ded} {i:Int} (h:Td d i=0):rOk d.r=true/\f6B d=false/\(∀n∈d.a,0<=n/\n < i)/\fNB d=false/\∀c∈d.c,Yi c=false:=by
 unfold Td at h;cases h1:rOk d.r
 ·rw[h1]at h;simp at h
 ·cases h2:f6B d
  ·cases h3:d.a.any (VD i)
   ·cases h4:fNB d
    ·cases h5:d.c.any Yi
     ·refine⟨rfl,rfl,fun n hn=> ?_,rfl,fun c hc=>by simpa using Sf.1 h5 c hc⟩;have:=Sf.1 h3 n hn;simp[VD]at this;omega
     ·rw[h1,h2,h3,h4,h5]at h;simp at h
    ·rw[h1,h2,h3,h4]at h;simp at h
   ·rw[h1,h2,h3]at h;simp at h
  ·rw[h1,h2]at h;simp at h
def I8 {M:Nat}: ∀{a:Qe},(∀x∈a,x.mass<=M)->Qt a<=a.length*M
 | [],_=>by simp[Qt]
 | x:: a,h=>by
  have h1:=h x (by simp);have h2:=I8 (a:=a) fun y hy=>h y (by simp[hy]);simp only[Qt,ZL,Vw];omega
def FO:=@Bool.not_eq_false'
def QcD {d:Ded} {l:QQ} {i:Nat} (h:Td d i=0) (hi:i<=l.length) (hpre: ∀j x,j < i->l[j]? =some x->Zs x.t=0) (htd:Zs d.t=0) (ha:d.a.length<=1000) (hc:d.c.length<=1000):AOk d (Wd l d):=by
 obtain⟨h1,h2,h3,h4,h5⟩:=SV h;have hlen: (Wd l d).length=d.a.length:=by simp[Wd]
 have hg: ∀x∈Wd l d,Zs x=0:=by
  intro x hx;obtain⟨n,hn,rfl⟩:=W8.1 hx;obtain⟨n0,n1⟩:=h3 n hn;have hlt:n.toNat < l.length:=by omega
  rw[Zv hlt];exact hpre n.toNat _ (by omega) (Zv hlt)
 unfold f6B at h2;simp only[Ph,FE,U9,FO,Qv]at h2;obtain⟨⟨k1,k2⟩,k3⟩:=h2;simp only[fNB,Ph,U9]at h4;refine⟨h1,by omega,by omega,fun h0=> ?_,fun e=> ?_,by omega,?_,hg,htd,by omega⟩
 ·rcases k1 with k | k
  ·exact absurd h0 k
  ·rw[hlen];exact k
 ·have:Xg d.r= -2:=by rw[e];rfl
  intro e2;rw[e2]at hlen;rcases k2 with k | k
  ·exact k this
  ·simp at hlen;omega
 ·have:=I8 (M:=13200) (a:=Wd l d) fun x hx=>(RL (hg x hx)).2;have: (Wd l d).length*13200<=1000*13200:=Z5 _ (by omega);omega
def Qpc (ks:Qe) (l:QQ) (d:Ded) (bs:Qa) (h:AOk d (Wd l d)) (hks: ∀x∈ks,x.mass < 1000000) (hkl:ks.length < 1000000) (hal:d.a.length<=1000) (hin: ∀n∈d.a,0<=n/\n.toNat < l.length):
  ∀(post pre:QJ) (o o1 o2:Bool) (ρ:Ql),d.a=pre ++ post->ρ 0= .sl o 4 (Qb ks)->ρ 1= .sl o1 8 (Qz l)->ρ 7= .bx (QK d)->ρ 8= .sl true 4 (Qb (pre.map fun n=>((l[n.toNat]?).map Ded.t).getD QG))->
   ρ 23= .sl o2 1 (Q7 d.a)->ρ 24= .int .i64 d.a.length->ρ 25= .int .i64 pre.length->
  R tb (.loop f351l0) ρ bs (Qq 0 (QH tb f351r0 (QP f351 bs)))=some (.bool (rtB ks d (Wd l d)),bs):=by
 intro post
 induction post with
 | nil=>
  intro pre o o1 o2 ρ hk h0 h1 h7 h8 h23 h24 h25;simp only[QN]at hk;rw[<- hk]at h25 h8;have hr:=fun ρ=>Qpd ks d (Wd l d) bs h hks hkl o ρ;change ρ 8= .sl true 4 (Qb (Wd l d))at h8;generalize rtB ks d (Wd l d)=X at *;generalize Qb (Wd l d)=E1 at *;rw[Qg f351l0.eq_1];simp[h0,h1,h7,h8,h23,h24,h25];apply hr <;> simp[h0,h7,h8]
 | cons n post IH=>
  intro pre o o1 o2 ρ hk h0 h1 h7 h8 h23 h24 h25;have hgt:=Qx hk;have hll:=QL hk;have hw1:=wr1 pre.length (by omega);have hlt:=QO hk;obtain⟨n0,nl⟩:=hin n (by rw[hk];simp);have hx:=Zv nl;have hb: ((pre.map fun n=>((l[n.toNat]?).map Ded.t).getD QG).length+1)*56<=140737488355328:=WI (by simp;omega);have ih:=fun ρ=>IH (pre ++ [n]) o o1 o2 ρ (by rw[hk];simp);have e: (pre ++ [n]).map (fun n=>((l[n.toNat]?).map Ded.t).getD QG)=pre.map (fun n=>((l[n.toNat]?).map Ded.t).getD QG)++ [(l[n.toNat]'nl).t]:=by simp[hx]
  rw[e]at ih;generalize l[n.toNat]'nl=x at *;generalize pre.map (fun n=>((l[n.toNat]?).map Ded.t).getD QG)=acc at *;generalize rtB ks d (Wd l d)=X at *;rw[Qg f351l0.eq_1];simp[-getElem?_pos,Zf,Zt,ZI,h0,h1,h7,h8,h23,h24,h25,hlt,hgt,hw1,n0,hx,hb,Qk,ZV,ZB];apply ih <;> simp[h0,h1,h7,h23,h24]
def Qht (ks:Qe) (l:QQ) (i:Nat) (d:Ded) (o o1:Bool) (bs:Qa) (hi:l[i]? =some d) (hpre: ∀j x,j < i->l[j]? =some x->Zs x.t=0) (htd:Zs d.t=0) (ha:d.a.length<=1000) (hc:d.c.length<=1000)
  (hks: ∀x∈ks,x.mass < 1000000) (hkl:ks.length < 1000000):
  call tb 351 [.sl o 4 (Qb ks),.sl o1 8 (Qz l),.int .i64 i] bs=some (.bool (decide (Td d i=0) && rtB ks d (Wd l d)),bs):=by
 have hil:=(V4.1 hi).1;have c352:=Qhu d i bs (by omega) (by omega);rw[zcc 351 rfl rfl];by_cases c:Td d i=0
 ·have haok:=QcD c (Nat.le_of_lt hil) hpre htd ha hc;obtain⟨_,_,h3,_,_⟩:=SV c;have h:=fun o o1 o2 ρ=>Qpc ks l d bs haok hks hkl ha (fun n hn=>⟨(h3 n hn).1,by have:=h3 n hn;omega⟩) d.a [] o o1 o2 ρ rfl;simp only[c,ON,VL];generalize rtB ks d (Wd l d)=X at *;simp[-getElem?_pos,Zf,Zt,ZI,f351C,hi,c352,c];refine h false false false _ ?_ ?_ ?_ ?_ ?_ ?_ ?_ <;> simp[Qb]
 ·simp[-getElem?_pos,Zf,Zt,ZI,f351C,hi,c352,c]
def QhL (ks:Qe) (d:Ded) (a:Qe) (o o1:Bool) (bs:Qa) (h:AOk d a) (hks: ∀x∈ks,x.mass < 1000000) (hkl:ks.length < 1000000):
  call tb 388 [.sl o 4 (Qb ks),.agg (QK d),.sl o1 4 (Qb a)] bs=some (.bool (rtB ks d a),bs):=by
 have htm:=h.tm;have htb:d.t.mass < big:=by unfold big;omega
 have gd:=h.gd;have hml:=h.ml;have hal:=h.al;rw[zcc 388 rfl rfl];unfold rtB;have one: ∀(w:Qu) (x:Tm),w.length<=7->a=[x]->∀o,call tb 389 [.agg (Qf d.t),.str w,.sl o 4 [Qf x]] bs=some (.bool (decide (Qp d.t (.mk 3 w 0 a)=0)),bs):=by
  intro w x hw e o;subst e;exact Ln d.t w [x] o bs htb (by rw[QF];simp only[Zx,Z7];unfold big;omega) (by simp)
 have two: ∀(w:Qu) (x y:Tm),w.length<=7->a=[x,y]->∀o,call tb 389 [.agg (Qf d.t),.str w,.sl o 4 [Qf x,Qf y]] bs=some (.bool (decide (Qp d.t (.mk 3 w 0 a)=0)),bs):=by
  intro w x y hw e o;subst e;exact Ln d.t w [x,y] o bs htb (by rw[QF];simp only[Zx,Z7];unfold big;omega) (by simp)
 by_cases r1:d.r=1
 ·simp only[r1,Zl];have hn:=h.n0;cases hk:ks[d.n.toNat]? with
  | none=>
   have hle:ks.length<=d.n.toNat:=by
    rcases QR d.n.toNat ks.length with h | h
    ·rw[Zv h]at hk;cases hk
    ·exact h
   have hlt: ¬d.n < (ks.length:Int):=by omega
   simp[-getElem?_pos,Zf,f388C,r1,hlt,Qk]
  | some k=>
   have hlt2:=(V4.1 hk).1;have hlt:d.n < (ks.length:Int):=by omega
   have h2:=Y3 k d.t bs (by have:=hks k (WC hk);unfold big;omega) htb;simp[-getElem?_pos,Zf,f388C,r1,hlt,hn,hk,h2,Qk]
 ·by_cases r2:d.r=2
  ·have h2:=Qhd d.t bs htm;simp[f388C,r2,h2,Qk]
  ·by_cases r3:d.r=3
   ·obtain⟨x,y,e⟩:=h.two (by rw[r3];rfl);have h2:=two [112,97,105,114] x y (by decide) e;have ew:XP d.r=[112,97,105,114]:=by rw[r3];rfl
    have c6:d.r=3\/d.r=6\/d.r=8\/d.r=10\/d.r=11\/d.r=13:= .inl r3;rw[Qm r1,Qm r2,Qn c6,ew];have ea:Qb a=[Qf x,Qf y]:=by rw[e];simp[Qb]
    generalize decide (Qp d.t (.mk 3 [112,97,105,114] 0 a)=0)=X at *;simp[f388C,ea,r3,h2,Qk]
   ·by_cases r6:d.r=6
    ·obtain⟨x,y,e⟩:=h.two (by rw[r6];rfl);have h2:=two [101,110,99] x y (by decide) e;have ew:XP d.r=[101,110,99]:=by rw[r6];rfl
     have c6:d.r=3\/d.r=6\/d.r=8\/d.r=10\/d.r=11\/d.r=13:= .inr (.inl r6);rw[Qm r1,Qm r2,Qn c6,ew];have ea:Qb a=[Qf x,Qf y]:=by rw[e];simp[Qb]
     generalize decide (Qp d.t (.mk 3 [101,110,99] 0 a)=0)=X at *;simp[f388C,ea,r6,h2,Qk]
    ·by_cases r8:d.r=8
     ·obtain⟨x,y,e⟩:=h.two (by rw[r8];rfl);have h2:=two [97,101,110,99] x y (by decide) e;have ew:XP d.r=[97,101,110,99]:=by rw[r8];rfl
      have c6:d.r=3\/d.r=6\/d.r=8\/d.r=10\/d.r=11\/d.r=13:= .inr (.inr (.inl r8));rw[Qm r1,Qm r2,Qn c6,ew];have ea:Qb a=[Qf x,Qf y]:=by rw[e];simp[Qb]
      generalize decide (Qp d.t (.mk 3 [97,101,110,99] 0 a)=0)=X at *;simp[f388C,ea,r8,h2,Qk]
     ·by_cases r10:d.r=10
      ·obtain⟨x,e⟩:=h.one (by rw[r10];rfl);have h2:=one [112,107] x (by decide) e;have ew:XP d.r=[112,107]:=by rw[r10];rfl
       have c6:d.r=3\/d.r=6\/d.r=8\/d.r=10\/d.r=11\/d.r=13:= .inr (.inr (.inr (.inl r10)));rw[Qm r1,Qm r2,Qn c6,ew];have ea:Qb a=[Qf x]:=by rw[e];simp[Qb]
       generalize decide (Qp d.t (.mk 3 [112,107] 0 a)=0)=X at *;simp[f388C,ea,r10,h2,Qk]
      ·by_cases r11:d.r=11
       ·obtain⟨x,y,e⟩:=h.two (by rw[r11];rfl);have h2:=two [115,105,103,110] x y (by decide) e;have ew:XP d.r=[115,105,103,110]:=by rw[r11];rfl
        have c6:d.r=3\/d.r=6\/d.r=8\/d.r=10\/d.r=11\/d.r=13:= .inr (.inr (.inr (.inr (.inl r11))));rw[Qm r1,Qm r2,Qn c6,ew];have ea:Qb a=[Qf x,Qf y]:=by rw[e];simp[Qb]
        generalize decide (Qp d.t (.mk 3 [115,105,103,110] 0 a)=0)=X at *;simp[f388C,ea,r11,h2,Qk]
       ·by_cases r13:d.r=13
        ·obtain⟨x,e⟩:=h.one (by rw[r13];rfl);have h2:=one [104,97,115,104] x (by decide) e;have ew:XP d.r=[104,97,115,104]:=by rw[r13];rfl
         have c6:d.r=3\/d.r=6\/d.r=8\/d.r=10\/d.r=11\/d.r=13:= .inr (.inr (.inr (.inr (.inr r13))));rw[Qm r1,Qm r2,Qn c6,ew];have ea:Qb a=[Qf x]:=by rw[e];simp[Qb]
         generalize decide (Qp d.t (.mk 3 [104,97,115,104] 0 a)=0)=X at *;simp[f388C,ea,r13,h2,Qk]
        ·simp only[r1,r2,r3,r6,r8,r10,r11,r13,or_self,Zd];clear one two;by_cases r4:d.r=4
         ·obtain⟨x,rfl⟩:=h.one (by rw[r4];rfl);obtain⟨g1,g2⟩:=gd x (by simp);have h2:=J6 x Yu 0 d.t bs (by unfold big;omega) htb (by omega);rw[show((0:Nat):Int)=0 from rfl]at h2;unfold Yu at h2 ⊢;simp[f388C,r4,h2,Qb,Qk]
         ·by_cases r5:d.r=5
          ·obtain⟨x,rfl⟩:=h.one (by rw[r5];rfl);obtain⟨g1,g2⟩:=gd x (by simp);have h2:=J6 x Yu 1 d.t bs (by unfold big;omega) htb (by omega);rw[show((1:Nat):Int)=1 from rfl]at h2;unfold Yu at h2 ⊢;simp[f388C,r5,h2,Qb,Qk]
          ·by_cases r12:d.r=12
           ·obtain⟨x,rfl⟩:=h.one (by rw[r12];rfl);obtain⟨g1,g2⟩:=gd x (by simp);have h2:=J6 x YL 0 d.t bs (by unfold big;omega) htb (by omega);rw[show((0:Nat):Int)=0 from rfl]at h2;unfold YL at h2 ⊢;simp[f388C,r12,h2,Qb,Qk]
           ·by_cases r7:d.r=7
            ·obtain⟨x,y,rfl⟩:=h.two (by rw[r7];rfl);obtain⟨g1,g2⟩:=gd x (by simp);obtain⟨g3,g4⟩:=gd y (by simp);have h2:=fun o=>Ln x ENC [d.t,y] o bs (by unfold big;omega) (by rw[QF];simp only[Zx,Z7,Qt,ZL,Yz,ENC];unfold big;omega) (by simp);rw[Bj g1 (.inr (.inl rfl))]at h2;rw[Qm r4,Qm r5,Qm r12,Qn r7,show([x,y]:Qe).headD QG=x from rfl,show([x,y]:Qe).getD 1 QG=y from rfl];generalize (WJ x ENC 0 d.t && decide (Qp (kid x 1) y=0))=X at *;unfold ENC at h2;simp only[Qb]at h2;simp[f388C,r7,h2,Qb,Qk]
            ·by_cases r9:d.r=9
             ·obtain⟨x,y,rfl⟩:=h.two (by rw[r9];rfl);obtain⟨g1,g2⟩:=gd x (by simp);obtain⟨g3,g4⟩:=gd y (by simp);have h3:=fun o=>Uy PK [y] o bs (by simp);have h2:=fun o=>Ln x Xi [d.t,.mk 3 PK 0 [y]] o bs (by unfold big;omega) (by simp only[Tm.mass,Qt,ZL,Yz,Xi,PK];unfold big;omega) (by simp);rw[Bj g1 (.inr (.inr (.inl rfl))),QmW (PC g1 1)]at h2;rw[Qm r4,Qm r5,Qm r12,Qm r7,Qn r9,show([x,y]:Qe).headD QG=x from rfl,show([x,y]:Qe).getD 1 QG=y from rfl];obtain⟨T2,hT2⟩: ∃T2,T2=Tm.mk 3 PK 0 [y]:=⟨_,rfl⟩;rw[<- hT2]at h2 h3;generalize (WJ x Xi 0 d.t && WJ (kid x 1) PK 0 y)=X at *;unfold Xi at h2;simp only[Qb]at h2 h3;unfold PK at h3;simp[f388C,r9,h2,h3,Qb,Qk]
             ·have rr:d.r=14\/d.r=15\/d.r=16:=by
               rcases Ru h.ok with e | e | e | e | e | e | e | e | e | e | e | e | e | e | e | e <;> simp_all
              have h2:=QhM d a false bs rr htm (fun x hx=>(gd x hx).2) h.al h.ml h.cl h.p15 (fun hb=>(gd2 (RL h.td).1 hb (.inr (.inr (.inr (.inr rfl))))).1) (fun x hx hb=>(gd2 (gd x hx).1 hb (.inr (.inr (.inr (.inr rfl))))).1);simp only[r4,r5,r12,r7,r9,Zd];simp[f388C,r1,r2,r3,r6,r8,r10,r11,r13,r4,r5,r12,r7,r9,h2,Qk]
def J7 (t:Tm) (bs:Qa) (hm:t.mass < 1000000):call tb 349 [.agg (Qf t)] bs=some (.bool (decide (Zs t=0)),bs):=by
 have hb:t.mass < big:=by unfold big;omega
 have h1:=MG t bs hb;have h2:=QcK t bs (by omega);have h3:=QgZ t bs hb;have hlen: (Qb (SG t)).length=(SG t).length:=by simp[YW]
 rw[zcc 349 rfl rfl];unfold Zs;by_cases c:thV t=0
 ·rw[c]at h1;by_cases c2:SG t=[]
  ·rw[c2]at h2;simp only[Qb]at h2;cases c3:Sx t
   ·rw[c3]at h3;simp[f349C,h1,h2,h3,c,c2,Qk]
   ·rw[c3]at h3;simp[f349C,h1,h2,h3,c,c2,Qk]
  ·have c4: ¬((SG t).length:Int)=0:=fun e=>c2 (YE (by omega));simp[f349C,h1,h2,hlen,c,c2,c4,Qk]
 ·simp[f349C,h1,c,Qk]
def stB (ks:Qe) (l:QQ) (i:Nat) (d:Ded):Bool:=decide (Zs d.t=0) && (decide (Td d i=0) && rtB ks d (Wd l d))
def Wq (ks:Qe) (l:QQ):Nat->QQ->Bool
 | _,[]=>true
 | i,d:: r=>stB ks l i d && Wq ks l (i+1) r
def VS (l:QQ) (t:Tm):Bool:=match l.getLast? with | some d=>decide (Qp d.t t=0) | none=>false
def SS (ks:Qe) (l:QQ) (t:Tm):Bool:=
 !(decide (l.length=0) || decide (400 < l.length) || decide (200 < ks.length) || !decide (Zs t=0) || !VS l t) && (ks.all (fun x=>decide (Zs x=0)) && Wq ks l 0 l)
structure O3 (ks:List Tm) (l:List Ded):Prop where
 km: ∀x∈ks,x.mass < 1000000
 kl:ks.length < 1000000
 tm: ∀d∈l,d.t.mass < 1000000
 al: ∀d∈l,d.a.length<=1000
 cl: ∀d∈l,d.c.length<=1000
 ll:l.length < 1000000
def Qon (ks:Qe) (l:QQ) (bs:Qa) (h:O3 ks l):
  ∀(post pre:QQ) (o o1 o2:Bool) (ρ:Ql),l=pre ++ post->(∀d∈pre,Zs d.t=0)->ρ 0= .sl o 4 (Qb ks)->ρ 1= .sl o1 8 (Qz l)->ρ 51= .sl o2 8 (Qz l)->ρ 52= .int .i64 l.length->ρ 53= .int .i64 pre.length->
  R tb (.loop f348l1) ρ bs (Qq 2 (QH tb f348r0 (QP f348 bs)))=some (.bool (Wq ks l pre.length post),bs):=by
 intro post
 induction post with
 | nil=>
  intro pre o o1 o2 ρ hk hp h0 h1 h51 h52 h53;simp only[QN]at hk;rw[<- hk]at h53;rw[Qg f348l1.eq_1];simp[h0,h1,h51,h52,h53,Wq,f348r0]
 | cons d post IH=>
  intro pre o o1 o2 ρ hk hp h0 h1 h51 h52 h53;have hgt:=Qx hk;have hll:=QL hk;have hl2:=h.ll;have hw1:=wr1 pre.length (by omega);have hlt:=QO hk;have hd:d∈l:=by rw[hk];simp
  have c349:=J7 d.t bs (h.tm d hd);simp only[Wq,stB];by_cases c:Zs d.t=0
  ·have c351:=fun o o1=>Qht ks l pre.length d o o1 bs hgt (fun j x hj hx=>by
    rw[hk,ZM hj]at hx;exact hp x (WC hx)) c (h.al d hd) (h.cl d hd) h.km h.kl
   have ih:=fun ρ=>IH (pre ++ [d]) o o1 o2 ρ (by rw[hk];simp) (fun x hx=>by
    rcases Wc.1 hx with hx | hx
    ·exact hp x hx
    ·simp at hx;subst hx;exact c)
   rw[Zo,Tu]at ih;generalize Wq ks l (pre.length+1) post=Y at *;generalize (decide (Td d ↑pre.length=0) && rtB ks d (Wd l d))=X at *;rw[Qg f348l1.eq_1];cases X
   ·simp[h0,h1,h51,h52,h53,hlt,hgt,c349,c351,c]
   ·simp[h0,h1,h51,h52,h53,hlt,hgt,hw1,c349,c351,c];apply ih <;> simp[h0,h1,h51,h52]
  ·rw[Qg f348l1.eq_1];simp[h0,h1,h51,h52,h53,hlt,hgt,c349,c]
def Qom (ks:Qe) (l:QQ) (bs:Qa) (h:O3 ks l):
  ∀(post pre:Qe) (o o1 o2:Bool) (ρ:Ql),ks=pre ++ post->ρ 0= .sl o 4 (Qb ks)->ρ 1= .sl o1 8 (Qz l)->ρ 41= .sl o2 4 (Qb ks)->ρ 42= .int .i64 ks.length->ρ 43= .int .i64 pre.length->
  R tb (.loop f348l0) ρ bs (Qq 0 (QH tb f348r1 (QP f348 bs)))=some (.bool (post.all (fun x=>decide (Zs x=0)) && Wq ks l 0 l),bs):=by
 intro post
 induction post with
 | nil=>
  intro pre o o1 o2 ρ hk h0 h1 h41 h42 h43;simp only[QN]at hk;rw[<- hk]at h43;have hh:=fun o o1 o2 ρ=>Qon ks l bs h l [] o o1 o2 ρ rfl (by simp);simp only[Yz]at hh;generalize Wq ks l 0 l=X at *;rw[Qg f348l0.eq_1];simp[h0,h1,h41,h42,h43,f348r1];refine hh o o1 false _ ?_ ?_ ?_ ?_ ?_ <;> simp[h0,h1]
 | cons x post IH=>
  intro pre o o1 o2 ρ hk h0 h1 h41 h42 h43;have hgt:=Qx hk;have hll:=QL hk;have hkl:=h.kl;have hw1:=wr1 pre.length (by omega);have hlt:=QO hk;have c349:=J7 x bs (h.km x (by rw[hk];simp));have ih:=fun ρ=>IH (pre ++ [x]) o o1 o2 ρ (by rw[hk];simp);simp only[Sh];generalize Wq ks l 0 l=X at *;generalize post.all (fun x=>decide (Zs x=0))=Y at *;rw[Qg f348l0.eq_1];by_cases c:Zs x=0
  ·simp[h0,h1,h41,h42,h43,hlt,hgt,hw1,c349,c,Qk];apply ih <;> simp[h0,h1,h41,h42]
  ·simp[h0,h1,h41,h42,h43,hlt,hgt,c349,c,Qk]
def Ny {l:QQ} (h:l≠[]): ∃d,l.getLast?=some d/\l[l.length - 1]? =some d/\d∈l:=by
 rcases FF l with e | ⟨pre,d,rfl⟩
 ·exact absurd e h
 ·simp only[FG];exact⟨d,by simp,by simp,by simp⟩
def Qhs (ks:Qe) (l:QQ) (t:Tm) (o o1:Bool) (bs:Qa) (h:O3 ks l) (ht:t.mass < 1000000):
  call tb 348 [.sl o 4 (Qb ks),.sl o1 8 (Qz l),.agg (Qf t)] bs=some (.bool (SS ks l t),bs):=by
 have c349:=J7 t bs ht;rw[zcc 348 rfl rfl];unfold SS;by_cases k0:l.length=0
 ·have:l=[]:=YE k0;subst this;simp[f348C,Qz]
 ·have k0': ¬l=[]:=fun e=>k0 (by simp[e]);obtain⟨d,e1,e2,hd⟩:=Ny (l:=l) k0';have el:VS l t=decide (Qp d.t t=0):=by unfold VS;rw[e1]
  rw[el];by_cases k1:400 < l.length
  ·have k1': (400:Int) < (l.length:Int):=by omega
   simp[f348C,k0,k0',k1,k1']
  ·have k1': ¬(400:Int) < (l.length:Int):=by omega
   by_cases k2:200 < ks.length
   ·have k2': (200:Int) < (ks.length:Int):=by omega
    simp[f348C,k0,k0',k1,k1',k2,k2']
   ·have k2': ¬(200:Int) < (ks.length:Int):=by omega
    by_cases k3:Zs t=0
    ·have c350:=Tb d.t t bs (by have:=h.tm d hd;unfold big;omega) (by unfold big;omega);have hw:IntKind.i64.wrap ((l.length:Int) - 1)=(l.length:Int) - 1:=Zb (by have:=h.ll;omega) (by have:=h.ll;omega);have hn: ((l.length:Int) - 1).toNat=l.length - 1:=by omega
     have hn0: (0:Int)<=(l.length:Int) - 1:=by omega
     have hn1: (1:Int)<=(l.length:Int):=by omega
     by_cases k4:Qp d.t t=0
     ·have hh:=fun o o1 o2 ρ=>Qom ks l bs h ks [] o o1 o2 ρ rfl;simp only[k0,k1,k2,k3,k4,Mu,ON,Bool.or_false,OL,Bool.not_false,VL];generalize (ks.all (fun x=>decide (Zs x=0)) && Wq ks l 0 l)=X at *;simp[-getElem?_pos,Zf,f348C,k0',k1',k2',c349,c350,hw,hn,hn0,hn1,e2,k3,k4,Qk];refine hh false false false _ ?_ ?_ ?_ ?_ ?_ <;> simp
     ·simp[-getElem?_pos,Zf,f348C,k0,k1,k2,k0',k1',k2',c349,c350,hw,hn,hn0,hn1,e2,k3,k4,Qk]
    ·simp[f348C,k0,k0',k1,k1',k2,k2',c349,k3,Qk]
def Qo8 (l:QQ) (i:Nat) (d:Ded) (bs:Qa) (hi:l[i]? =some d) (hal:d.a.length<=1000) (hin: ∀n∈d.a,0<=n/\n.toNat < l.length) (c:AC) (K:Kn) (X:Out):
  ∀(post pre:QJ) (o1:Bool) (ρ:Ql),d.a=pre ++ post->ρ 1= .sl o1 8 (Qz l)->ρ 8= .int .i64 i->ρ 9= .sl true 4 (Qb (pre.map fun n=>((l[n.toNat]?).map Ded.t).getD QG))->ρ 10= .int .i64 pre.length->
   (∀ρ':Ql,(∀j,j < 9->ρ' j=ρ j)->ρ' 9= .sl true 4 (Qb (Wd l d))->R tb c ρ' bs K=X)->
  R tb (.loop f384l1) ρ bs (Qq 4 (QH tb c K))=X:=by
 intro post
 induction post with
 | nil=>
  intro pre o1 ρ hk h1 h8 h9 h10 H;simp only[QN]at hk;rw[<- hk]at h10 h9;change ρ 9= .sl true 4 (Qb (Wd l d))at h9;generalize Qb (Wd l d)=E1 at *;rw[Qg f384l1.eq_1];simp[-getElem?_pos,Zf,Zt,ZI,h1,h8,h9,h10,hi];refine H _ (fun j hj=> ?_) ?_
  ·simp[show j≠63 by omega,show j≠64 by omega,show j≠65 by omega,show j≠66 by omega,show j≠67 by omega,show j≠68 by omega,show j≠69 by omega,show j≠70 by omega]
  ·simp[h9]
 | cons n post IH=>
  intro pre o1 ρ hk h1 h8 h9 h10 H;have hgt:=Qx hk;have hll:=QL hk;have hw1:=wr1 pre.length (by omega);have hlt:=QO hk;obtain⟨n0,nl⟩:=hin n (by rw[hk];simp);have hx:=Zv nl;have hb: ((pre.map fun n=>((l[n.toNat]?).map Ded.t).getD QG).length+1)*56<=140737488355328:=WI (by simp;omega);have ih:=fun ρ=>IH (pre ++ [n]) o1 ρ (by rw[hk];simp);have e: (pre ++ [n]).map (fun n=>((l[n.toNat]?).map Ded.t).getD QG)=pre.map (fun n=>((l[n.toNat]?).map Ded.t).getD QG)++ [(l[n.toNat]'nl).t]:=by simp[hx]
  rw[e]at ih;generalize l[n.toNat]'nl=x at *;generalize pre.map (fun n=>((l[n.toNat]?).map Ded.t).getD QG)=acc at *;generalize Qb (Wd l d)=E1 at *;rw[Qg f384l1.eq_1];simp[-getElem?_pos,Zf,Zt,ZI,h1,h8,h9,h10,hi,hlt,hgt,hw1,n0,hx,hb,Qk,ZV,ZB];refine ih _ ?_ ?_ ?_ ?_ ?_
  ·simp[h1]
  ·simp[h8]
  ·simp
  ·simp
  ·intro ρ' gj g9;refine H ρ' (fun j hj=> ?_) g9;rw[gj j hj];simp[show j≠9 by omega,show j≠10 by omega,show j≠63 by omega,show j≠64 by omega,show j≠65 by omega,show j≠66 by omega,show j≠67 by omega,show j≠68 by omega,show j≠69 by omega,show j≠70 by omega,show j≠71 by omega,show j≠72 by omega,show j≠73 by omega,show j≠74 by omega,show j≠75 by omega,show j≠76 by omega,show j≠77 by omega,show j≠78 by omega,show j≠79 by omega,show j≠80 by omega,show j≠81 by omega,show j≠82 by omega,show j≠83 by omega,show j≠84 by omega,show j≠85 by omega,show j≠86 by omega,show j≠87 by omega]
def Qo9 (ks:Qe) (l:QQ) (t:Tm) (bs:Qa) (h:O3 ks l) (ht:t.mass < 1000000) (hne:l≠[]):
  ∀(post pre:QQ) (o o1:Bool) (ρ:Ql),l=pre ++ post->(∀d∈pre,Zs d.t=0)->ρ 0= .sl o 4 (Qb ks)->ρ 1= .sl o1 8 (Qz l)->ρ 5= .bx (Qf t)->ρ 8= .int .i64 pre.length->
  R tb (.loop f384l2) ρ bs (Qq 2 (QH tb f384r2 (QP f384 bs)))=some (.bool (Wq ks l pre.length post && VS l t),bs):=by
 intro post
 induction post with
 | nil=>
  intro pre o o1 ρ hk hp h0 h1 h5 h8;simp only[QN]at hk;rw[<- hk]at h8;obtain⟨d,e1,e2,hd⟩:=Ny hne;have el:VS l t=decide (Qp d.t t=0):=by unfold VS;rw[e1]
  have c89:=Y3 d.t t bs (by have:=h.tm d hd;unfold big;omega) (by unfold big;omega);have hl0:0 < l.length:=UH.2 hne;have hw:IntKind.i64.wrap ((l.length:Int) - 1)=(l.length:Int) - 1:=Zb (by have:=h.ll;omega) (by have:=h.ll;omega);have hn: ((l.length:Int) - 1).toNat=l.length - 1:=by omega
  have hn0: (0:Int)<=(l.length:Int) - 1:=by omega
  have hn1: (1:Int)<=(l.length:Int):=by omega
  rw[Qg f384l2.eq_1,el];simp[-getElem?_pos,Zf,h0,h1,h5,h8,Wq,f384r2,hw,hn,hn0,hn1,e2,c89,Qk]
 | cons d post IH=>
  intro pre o o1 ρ hk hp h0 h1 h5 h8;have hgt:=Qx hk;have hll:=QL hk;have hl2:=h.ll;have hw1:=wr1 pre.length (by omega);have hlt:=QO hk;have hd:d∈l:=by rw[hk];simp
  have hda:=h.al d hd;have hdc:=h.cl d hd;have c233:=J5 d.t bs (h.tm d hd);have c385:=QhI d pre.length bs (by omega) (by omega);simp only[Wq,stB];by_cases c1:Td d pre.length=0
  ·by_cases c:Zs d.t=0
   ·have hpre: ∀j x,j < pre.length->l[j]? =some x->Zs x.t=0:=fun j x hj hx=>by
     rw[hk,ZM hj]at hx;exact hp x (WC hx)
    have haok:=QcD c1 (by omega) hpre c hda hdc;obtain⟨_,_,h3,_,_⟩:=SV c1;have c388:=fun o o1=>QhL ks d (Wd l d) o o1 bs haok h.km h.kl;have hin:=fun o1 ρ c K X=>Qo8 l pre.length d bs hgt hda (fun n hn=>⟨(h3 n hn).1,by have:=h3 n hn;omega⟩) c K X d.a [] o1 ρ rfl;have ih:=fun ρ=>IH (pre ++ [d]) o o1 ρ (by rw[hk];simp) (fun x hx=>by
     rcases Wc.1 hx with hx | hx
     ·exact hp x hx
     ·simp at hx;subst hx;exact c)
    rw[Zo,Tu]at ih;generalize Wq ks l (pre.length+1) post=Y at *;generalize VS l t=Z at *;generalize rtB ks d (Wd l d)=X at *;rw[Qg f384l2.eq_1];simp[-getElem?_pos,Zf,Zt,ZI,h0,h1,h5,h8,hlt,hgt,c385,c233,c1,c,Qk];refine hin o1 _ _ _ _ ?_ ?_ ?_ ?_ ?_
    ·simp[h1]
    ·simp[h8]
    ·simp[Qb]
    ·simp
    ·intro ρ' gj g9;have e0:=gj 0 (by omega);have e1:=gj 1 (by omega);have e5:=gj 5 (by omega);have e8:=gj 8 (by omega);simp[h0]at e0;simp[h1]at e1;simp[h5]at e5;simp[h8]at e8;cases X
     ·simp[-getElem?_pos,Zf,f384r0,f384r1,g9,e0,e1,e5,e8,hgt,c388]
     ·simp[-getElem?_pos,Zf,f384r0,f384r1,g9,e0,e1,e5,e8,hgt,c388,hw1];apply ih <;> simp[e0,e1,e5]
   ·rw[Qg f384l2.eq_1];simp[-getElem?_pos,Zf,Zt,ZI,h0,h1,h5,h8,hlt,hgt,c385,c233,c1,c,Qk]
  ·rw[Qg f384l2.eq_1];simp[-getElem?_pos,Zf,Zt,ZI,h0,h1,h5,h8,hlt,hgt,c385,c1,Qk]
def Qo7 (ks:Qe) (l:QQ) (t:Tm) (bs:Qa) (h:O3 ks l) (ht:t.mass < 1000000) (hne:l≠[]):
  ∀(post pre:Qe) (o o1:Bool) (ρ:Ql),ks=pre ++ post->ρ 0= .sl o 4 (Qb ks)->ρ 1= .sl o1 8 (Qz l)->ρ 5= .bx (Qf t)->ρ 7= .int .i64 pre.length->
  R tb (.loop f384l0) ρ bs (Qq 0 (QH tb f384r3 (QP f384 bs)))=some (.bool (post.all (fun x=>decide (Zs x=0)) && (Wq ks l 0 l && VS l t)),bs):=by
 intro post
 induction post with
 | nil=>
  intro pre o o1 ρ hk h0 h1 h5 h7;simp only[QN]at hk;rw[<- hk]at h7;have hh:=fun o o1 ρ=>Qo9 ks l t bs h ht hne l [] o o1 ρ rfl (by simp);simp only[Yz]at hh;generalize (Wq ks l 0 l && VS l t)=X at *;rw[Qg f384l0.eq_1];simp[h0,h1,h5,h7,f384r3];refine hh o o1 _ ?_ ?_ ?_ ?_ <;> simp[h0,h1,h5]
 | cons x post IH=>
  intro pre o o1 ρ hk h0 h1 h5 h7;have hgt:=Qx hk;have hll:=QL hk;have hkl:=h.kl;have hw1:=wr1 pre.length (by omega);have hlt:=QO hk;have c233:=J5 x bs (h.km x (by rw[hk];simp));have ih:=fun ρ=>IH (pre ++ [x]) o o1 ρ (by rw[hk];simp);simp only[Sh];generalize (Wq ks l 0 l && VS l t)=X at *;generalize post.all (fun x=>decide (Zs x=0))=Y at *;rw[Qg f384l0.eq_1];by_cases c:Zs x=0
  ·simp[h0,h1,h5,h7,hlt,hgt,hw1,c233,c,Qk];apply ih <;> simp[h0,h1,h5]
  ·simp[h0,h1,h5,h7,hlt,hgt,c233,c,Qk]
def C6 (ks:Qe) (l:QQ) (t:Tm) (o o1:Bool) (bs:Qa) (h:O3 ks l) (ht:t.mass < 1000000):
  call tb 384 [.sl o 4 (Qb ks),.sl o1 8 (Qz l),.agg (Qf t)] bs=some (.bool (SS ks l t),bs):=by
 have c233:=J5 t bs ht;rw[zcc 384 rfl rfl];unfold SS;by_cases k2:200 < ks.length
 ·have k2': (200:Int) < (ks.length:Int):=by omega
  simp[f384C,k2,k2']
 ·have k2': ¬(200:Int) < (ks.length:Int):=by omega
  by_cases k0:l=[]
  ·subst k0;simp[f384C,Qz,k2,k2']
  ·have k0': ¬l.length=0:=fun e=>k0 (YE e);by_cases k1:400 < l.length
   ·have k1': (400:Int) < (l.length:Int):=by omega
    simp[f384C,k0,k1,k1',k2,k2']
   ·have k1': ¬(400:Int) < (l.length:Int):=by omega
    by_cases k3:Zs t=0
    ·have hh:=fun o o1 ρ=>Qo7 ks l t bs h ht k0 ks [] o o1 ρ rfl;have e: (!(decide (l.length=0) || decide (400 < l.length) || decide (200 < ks.length) || !decide (Zs t=0) || !VS l t) && (ks.all (fun x=>decide (Zs x=0)) && Wq ks l 0 l))=(ks.all (fun x=>decide (Zs x=0)) && (Wq ks l 0 l && VS l t)):=by
      simp only[k0',k1,k2,k3,Mu,ON,K4,OL,Bool.not_not];cases VS l t <;> cases ks.all (fun x=>decide (Zs x=0)) <;> cases Wq ks l 0 l <;> rfl
     rw[e];generalize (ks.all (fun x=>decide (Zs x=0)) && (Wq ks l 0 l && VS l t))=X at *;simp[f384C,k0,k1',k2',c233,k3,Qk];refine hh false false _ ?_ ?_ ?_ ?_ <;> simp
    ·simp[f384C,k0,k1,k1',k2,k2',c233,k3,Qk]
section
variable {α:Type}
def xv (a b:α->Bool):α->Bool:=fun t=>a t ^^ b t
def zv0:α->Bool:=fun _=>false
def QjI (a:α->Bool):xv a zv0=a:=by funext t;simp[xv,zv0]
def BR (a:α->Bool):xv zv0 a=a:=by funext t;simp[xv,zv0]
def QjH (a:α->Bool):xv a a=zv0:=by funext t;simp[xv,zv0]
def QjG (a b:α->Bool):xv a b=xv b a:=by funext t;simp[xv,Bool.xor_comm]
def NQ (a b c:α->Bool):xv (xv a b) c=xv a (xv b c):=by funext t;simp[xv]
def Qee (a b:α->Bool):xv a (xv a b)=b:=by rw[<- NQ,QjH,BR]
inductive Sp (L:List (α->Bool)): (α->Bool)->Prop
 | zero:Sp L zv0
 | add {v w:α->Bool}:v∈L->Sp L w->Sp L (xv v w)
def Sp.mem {L:List (α->Bool)} {v:α->Bool} (h:v∈L):Sp L v:=by
 have:=Sp.add h Sp.zero;rwa[QjI]at this
def Sp.sum {L:List (α->Bool)} {v w:α->Bool} (h:Sp L v) (h2:Sp L w):Sp L (xv v w):=by
 induction h with
 | zero=>rwa[BR]
 | add hm _ ih=>rw[NQ];exact .add hm ih
def Sp.sub {L M:List (α->Bool)} {v:α->Bool} (h: ∀x∈L,Sp M x) (hv:Sp L v):Sp M v:=by
 induction hv with
 | zero=>exact .zero
 | add hm _ ih=>exact(h _ hm).sum ih
def Sp.mono {L M:List (α->Bool)} {v:α->Bool} (h: ∀x∈L,x∈M) (hv:Sp L v):Sp M v:=hv.sub fun x hx=> .mem (h x hx)
def Sp.cons {r:α->Bool} {L:List (α->Bool)} {v:α->Bool} (h:Sp (r:: L) v):Sp L v\/Sp L (xv r v):=by
 induction h with
 | zero=>exact .inl .zero
 | @add x w hm _ ih=>
  rcases ZS.1 hm with rfl | hm
  ·rcases ih with ih | ih
   ·exact .inr (by rwa[Qee])
   ·exact .inl ih
  ·rcases ih with ih | ih
   ·exact .inl (.add hm ih)
   ·exact .inr (by
     have:=Sp.add hm ih;rwa[<- NQ,QjG x r,NQ]at this)
end
end Go.Am
namespace Go.Am
set_option maxRecDepth 20000
end Go.Am
namespace Go.Am
set_option maxRecDepth 20000
end Go.Am
namespace Go.Am
set_option maxRecDepth 20000
end Go.Am
namespace Go.Am
abbrev Xz:=List (List Int)
def rwE (rs:Xz) (i:Nat):QJ:=rs.getD i []
def ceE (rs:Xz) (i c:Nat):Int:=(rwE rs i).getD c 0
abbrev X9:=List Bool
def acE (rs:Xz) (us:X9) (c i:Nat):Bool:= !(us.getD i true) && !decide (ceE rs i c=0)
def Qql (a p:QJ) (q:Int):QJ:=List.zipWith (fun x y=>x - q*y) a p
def okE (a:QJ):Bool:=a.all fun x=>decide (x.natAbs<=1099511627776)
def scE (rs:Xz) (us:X9) (c:Nat):Nat->YI×Nat
 | 0=>(none,0)
 | k+1=>if acE rs us c k then(match (scE rs us c k).1 with
   | none=>(some k,(scE rs us c k).2+1)
   | some j=>(if(ceE rs k c).natAbs < (ceE rs j c).natAbs then some k else some j,(scE rs us c k).2+1))else scE rs us c k
def nwE (rs:Xz) (c b k:Nat):QJ:=Qql (rwE rs k) (rwE rs b) ((ceE rs k c).tdiv (ceE rs b c))
def rnE (rs:Xz) (us:X9) (c b:Nat):Nat->Xz
 | 0=>rs
 | k+1=>if !decide (k=b) && acE rs us c k then(rnE rs us c b k).set k (nwE rs c b k)else rnE rs us c b k
def orE (rs:Xz) (us:X9) (c b:Nat):Nat->Bool
 | 0=>true
 | k+1=>orE rs us c b k && (!(!decide (k=b) && acE rs us c k) || okE (nwE rs c b k))
def coE (c:Nat):Nat->Xz->X9->Option (Xz×X9×Int)
 | 0,_,_=>none
 | f+1,rs,us=>match scE rs us c rs.length with
  | (none,_)=>some (rs,us,-1)
  | (some b,n)=>if n=1 then some (rs,us.set b true,(b:Int))else if orE rs us c b rs.length then coE c f (rnE rs us c b rs.length) us else none
def msE (rs:Xz) (us:X9) (c:Nat):ZF
 | 0=>0
 | k+1=>msE rs us c k+if acE rs us c k then(ceE rs k c).natAbs else 0
def elE (rs:Xz):Nat->Option (Xz×X9×QJ)
 | 0=>some (rs,List.replicate rs.length false,[])
 | c+1=>(elE rs c).bind fun s=>(coE c (msE s.1 s.2.1 c s.1.length+1) s.1 s.2.1).map fun x=>(x.1,x.2.1,s.2.2 ++ [x.2.2])
def OX (rs:Xz) (us:X9) (c b:Nat): ∀k,(rnE rs us c b k).length=rs.length
 | 0=>rfl
 | k+1=>by
  simp only[rnE];split
  ·rw[Mp,OX rs us c b k]
  ·exact OX rs us c b k
def Qjh (rs:Xz) (k j:Nat) (x:QJ) (hk:k < rs.length):rwE (rs.set k x) j=if j=k then x else rwE rs j:=by
 simp only[rwE,U8,Y8];by_cases h:k=j
 ·subst h;simp[hk]
 ·have: ¬j=k:=fun e=>h e.symm;simp[h,this]
def BJ (rs:Xz) (us:X9) (c b:Nat): ∀k,k<=rs.length->∀j,rwE (rnE rs us c b k) j=if j < k/\j≠b/\acE rs us c j=true then nwE rs c b j else rwE rs j
 | 0,_,j=>by simp[rnE]
 | k+1,hk,j=>by
  have ih:=BJ rs us c b k (by omega);simp only[rnE];by_cases h: (!decide (k=b) && acE rs us c k)=true
  ·rw[Qn h,Qjh _ _ _ _ (by rw[OX];omega)];simp only[Qo,Us,U9]at h;by_cases hj:j=k
   ·subst hj;rw[Qn rfl,Qn ⟨by omega,h.1,h.2⟩]
   ·rw[Qm hj,ih j];by_cases h2:j < k
    ·have:j < k+1:=by omega
     simp[h2,this]
    ·have: ¬j < k+1:=by omega
     simp[h2,this]
  ·rw[Qm h,ih j];simp only[Qo,Us,U9]at h;by_cases hj:j=k
   ·subst hj;have h2: ¬(j < j+1/\j≠b/\acE rs us c j=true):=fun⟨_,x,y⟩=>h ⟨x,y⟩;rw[Qm h2,Qm (by omega)]
   ·by_cases h2:j < k
    ·have:j < k+1:=by omega
     simp[h2,this]
    ·have: ¬j < k+1:=by omega
     simp[h2,this]
structure ScI (rs:List (List Int)) (us:List Bool) (c k:Nat):Prop where
 nn: (scE rs us c k).1=none->(scE rs us c k).2=0/\∀j,j < k->acE rs us c j=false
 sm: ∀b,(scE rs us c k).1=some b->b < k/\acE rs us c b=true/\0 < (scE rs us c k).2/\∀j,j < k->acE rs us c j=true->(ceE rs b c).natAbs<=(ceE rs j c).natAbs
 tw: ∀b,(scE rs us c k).1=some b->2<=(scE rs us c k).2->∃j,j < k/\j≠b/\acE rs us c j=true
 on: ∀b,(scE rs us c k).1=some b->(scE rs us c k).2=1->∀j,j < k->acE rs us c j=true->j=b
def Pc:=@Nat.lt_succ_iff_lt_or_eq
def scI (rs:Xz) (us:X9) (c:Nat): ∀k,ScI rs us c k
 | 0=>⟨fun _=>⟨rfl,fun j hj=>by omega⟩,fun b hb=>by simp[scE]at hb,fun b hb=>by simp[scE]at hb,fun b hb=>by simp[scE]at hb⟩
 | k+1=>by
  have ih:=scI rs us c k;cases ha:acE rs us c k
  ·have e:scE rs us c (k+1)=scE rs us c k:=by simp[scE,ha]
   refine⟨?_,?_,?_,?_⟩ <;> rw[e]
   ·intro h;refine⟨(ih.nn h).1,fun j hj=> ?_⟩;rcases Pc.1 hj with h2 | h2
    ·exact(ih.nn h).2 j h2
    ·subst h2;exact ha
   ·intro b hb;obtain⟨h1,h2,h3,h4⟩:=ih.sm b hb;refine⟨by omega,h2,h3,fun j hj haj=> ?_⟩;rcases Pc.1 hj with h5 | h5
    ·exact h4 j h5 haj
    ·subst h5;rw[ha]at haj;cases haj
   ·intro b hb hn;obtain⟨j,h1,h2,h3⟩:=ih.tw b hb hn;exact⟨j,by omega,h2,h3⟩
   ·intro b hb hn j hj haj;rcases Pc.1 hj with h5 | h5
    ·exact ih.on b hb hn j h5 haj
    ·subst h5;rw[ha]at haj;cases haj
  ·cases hs: (scE rs us c k).1 with
   | none=>
    obtain⟨h0,hno⟩:=ih.nn hs;have e:scE rs us c (k+1)=(.some k,1):=by simp[scE,ha,hs,h0]
    refine⟨?_,?_,?_,?_⟩ <;> rw[e]
    ·intro h;cases h
    ·intro b hb;injection hb with hb
     subst hb;refine⟨by omega,ha,by simp,fun j hj haj=> ?_⟩;rcases Pc.1 hj with h5 | h5
     ·rw[hno j h5]at haj;cases haj
     ·subst h5;exact ZJ _
    ·intro b hb hn;simp at hn
    ·intro b hb hn j hj haj;injection hb with hb
     rcases Pc.1 hj with h5 | h5
     ·rw[hno j h5]at haj;cases haj
     ·omega
   | some d=>
    obtain⟨h1,h2,h3,h4⟩:=ih.sm d hs;by_cases hlt: (ceE rs k c).natAbs < (ceE rs d c).natAbs
    ·have e:scE rs us c (k+1)=(.some k,(scE rs us c k).2+1):=by simp[scE,ha,hs,hlt]
     refine⟨?_,?_,?_,?_⟩ <;> rw[e]
     ·intro h;cases h
     ·intro b hb;injection hb with hb
      subst hb;refine⟨by omega,ha,by simp,fun j hj haj=> ?_⟩;rcases Pc.1 hj with h5 | h5
      ·have:=h4 j h5 haj;omega
      ·subst h5;exact ZJ _
     ·intro b hb hn;injection hb with hb
      subst hb;exact⟨d,by omega,by omega,h2⟩
     ·intro b hb hn;simp only at hn;omega
    ·have e:scE rs us c (k+1)=(.some d,(scE rs us c k).2+1):=by simp[scE,ha,hs,hlt]
     refine⟨?_,?_,?_,?_⟩ <;> rw[e]
     ·intro h;cases h
     ·intro b hb;injection hb with hb
      subst hb;refine⟨by omega,h2,by simp,fun j hj haj=> ?_⟩;rcases Pc.1 hj with h5 | h5
      ·exact h4 j h5 haj
      ·subst h5;omega
     ·intro b hb hn;injection hb with hb
      subst hb;exact⟨k,by omega,by omega,ha⟩
     ·intro b hb hn;simp only at hn;omega
end Go.Am
namespace Go.Am
set_option maxRecDepth 20000
end Go.Am
namespace Go.Am
set_option maxRecDepth 20000
end Go.Am
namespace Go.Am
set_option maxRecDepth 20000
end Go.Am
namespace Go.Am
set_option maxRecDepth 20000
abbrev W64:=BitVec 64
def QpZ (w:W64):AV:= .int .u64 w.toNat
def QgB (l:List W64):Qa:=l.map fun w=>[QpZ w]
end Go.Am
namespace Go.Am
set_option maxRecDepth 20000
def TSg (B:Qa) (v:AV) (l:Qe):Prop:=∃id sz,v= .gs id 0 sz l.length/\∃c,l≠[]->sz=4/\B[id]? =some (Qy l ++ c)
end Go.Am
