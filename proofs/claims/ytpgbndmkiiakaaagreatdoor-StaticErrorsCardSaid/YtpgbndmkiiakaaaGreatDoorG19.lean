/-
  Rc21, Rc22, Rc23, Rc24, Rc25, Rc26, Rc27, Rc28.
-/
import Derived.Test.YtpgbndmkiiakaaaGreatDoorG18
set_option linter.unusedVariables false
set_option linter.unusedSimpArgs false
namespace Go.Am
set_option maxRecDepth 8000
@[simp] theorem QoN (x y:Tm) (a:List Tm) (h:1 < (encTs (x:: y:: a)).length): (encTs (x:: y:: a))[1]=Qa y:=by simp[encTs]
def Ze:List UInt8:=[112,97,105,114]
def ENC:List UInt8:=[101,110,99]
def Zb:List UInt8:=[97,101,110,99]
def PK:List UInt8:=[112,107]
def Q2:List UInt8:=[115,105,103,110]
def EXP:List UInt8:=[101,120,112]
def FST:List UInt8:=[102,115,116]
def SND:List UInt8:=[115,110,100]
def DEC:List UInt8:=[100,101,99]
def Q6:List UInt8:=[97,100,101,99]
def QV:List UInt8:=[111,112,101,110]
def READ:List UInt8:=[114,101,97,100]
def Q8 (n:List UInt8) (m:Nat):Bool:=
 if n=Ze∨n=ENC∨n=Zb∨n=Q2∨n=EXP∨n=DEC∨n=Q6∨n=QV then decide (m=2)
 else if n=PK∨n=FST∨n=SND∨n=READ then decide (m=1)else true
mutual
def Q1:Tm→Bool
 | .mk k n s ks=>(!(k == 3) || ((s == 0) && Q8 n ks.length)) && goodL ks
def goodL:List Tm→Bool
 | []=>true
 | t:: ts=>Q1 t && goodL ts
end
theorem EH (t:Tm):Q1 t=((!(t.kind == 3) || ((t.sort == 0) && Q8 t.name t.kids.length)) && goodL t.kids):=by cases t;simp[Q1]
theorem Y5: ∀{l:List Tm},goodL l=true↔∀x∈l,Q1 x=true
 | []=>by simp[goodL]
 | t:: ts=>by simp[goodL,Y5 (l:=ts)]
theorem Xh {t:Tm} (h:Q1 t=true):goodL t.kids=true:=by rw[EH]at h;simp at h;exact h.2
theorem XN {t:Tm} (h:Q1 t=true) (hk:t.kind=3):t.sort=0∧Q8 t.name t.kids.length=true:=by
 rw[EH]at h;simp[hk]at h;exact h.1
theorem Q3 {t:Tm} {n:List UInt8} (h:Q1 t=true) (hb:isB t n=true) (hn:Q8 n t.kids.length=decide (t.kids.length=2)): ∃x y,t.kids=[x,y]:=by
 obtain⟨hk,rfl⟩:=Ti.1 hb;have:=(XN h hk).2;rw[hn]at this;simp at this
 match hh:t.kids with
 | [x,y]=>exact⟨x,y,rfl⟩
 | []=>rw[hh]at this;simp at this
 | [_]=>rw[hh]at this;simp at this
 | _:: _:: _:: _=>rw[hh]at this;simp at this
def kid (t:Tm) (i:Nat):Tm:=t.kids.getD i Qw
def pkT (t:Tm):Tm:= .mk 3 PK 0 [t]
theorem BU {u:Tm} (h:Q1 u=true) (key:Tm):decide (Qm u (pkT key)=0)=(isB u PK && decide (Qm (kid u 0) key=0)):=by
 cases hb:isB u PK
 ·have: ¬Qm u (pkT key)=0:=by
   intro e;have:=ZY _ _ e;subst this;simp[isB,pkT]at hb
  simp[this]
 ·obtain⟨hk,hn⟩:=Ti.1 hb;obtain⟨hs,ha⟩:=XN h hk;rw[hn]at ha;have h1:u.kids.length=1:=by simpa[Q8,PK,Ze,ENC,Zb,Q2,EXP,DEC,Q6,QV]using ha
  obtain⟨x,hx⟩:=List.length_eq_one_iff.1 h1;have hu:u=pkT x:=by rw[← Tm.eta u,hk,hn,hs,hx];rfl
  subst hu;have:kid (pkT x) 0=x:=rfl;rw[this];have e1:Qm (pkT x) (pkT key)=0↔Qm x key=0:=by
   constructor
   ·intro e;have:=ZY _ _ e;injection this with _ _ _ h4
    injection h4 with h4
    subst h4;exact Yn _
   ·intro e;have:=ZY _ _ e;subst this;exact Yn _
  simp[e1]
def QL (n:List UInt8) (us:List Tm):Tm:=
 let a:=us.getD 0 Qw
 let key:=us.getD 1 Qw
 let out:Tm:= .mk 3 n 0 us
 if n=FST then(if isB a Ze then kid a 0 else out)
 else if n=SND then(if isB a Ze then kid a 1 else out)
 else if n=DEC then(if isB a ENC && decide (Qm (kid a 1) key=0)then kid a 0 else out)
 else if n=Q6 then(if isB a Zb && decide (Qm (kid a 1) (pkT key)=0)then kid a 0 else out)
 else if n=QV then(if isB a Q2 && decide (Qm key (pkT (kid a 1))=0)then kid a 0 else out)
 else if n=READ then(if isB a Q2 then kid a 0 else out)
 else out
theorem Lk (x y:Tm) (bs:List (List AV)) (hx:x.mass < big) (hy:y.mass < big):call F.tb 177 [.agg (Qa x),.agg (Qa y)] bs=some (.bool (decide (Qm x y=0)),bs):=by
 have h:=call_Compare x y bs hx hy;rw[Qb F.tb_177 _ _ rfl];simp[F.f177C,h]
def Yw (n:List UInt8):Bool:=n == FST || n == SND || n == DEC || n == Q6 || n == QV || n == READ
theorem Qfv (n:List UInt8) (a:Tm) (bs:List (List AV)) (hn:n=FST∨n=SND∨n=READ) (hg:Q1 a=true) (hm:a.mass < big):
  call F.tb 176 [.agg (Qa (.mk 3 n 0 [a]))] bs=some (.agg (Qa (QL n [a])),bs):=by
 have h1:=fun m=>Rz a m bs;rw[Qb F.tb_176 _ _ rfl];rcases hn with rfl | rfl | rfl
 ·cases hb:isB a Ze
  ·have h2:=h1 Ze;rw[hb]at h2;simp only[Ze]at h2
   have e:QL FST [a]= .mk 3 FST 0 [a]:=by simp[QL,hb]
   rw[e];simp only[FST];simp[F.f176C,h2]
  ·have h2:=h1 Ze;rw[hb]at h2;simp only[Ze]at h2
   obtain⟨x,y,hk⟩:=Q3 hg hb (by simp[Q8]);have e:QL FST [a]=x:=by simp[QL,hb,kid,hk]
   rw[e];simp only[FST];simp[F.f176C,h2,hk]
 ·cases hb:isB a Ze
  ·have h2:=h1 Ze;rw[hb]at h2;simp only[Ze]at h2
   have e:QL SND [a]= .mk 3 SND 0 [a]:=by simp[QL,hb,SND,FST]
   rw[e];simp only[SND];simp[F.f176C,h2]
  ·have h2:=h1 Ze;rw[hb]at h2;simp only[Ze]at h2
   obtain⟨x,y,hk⟩:=Q3 hg hb (by simp[Q8]);have e:QL SND [a]=y:=by simp[QL,hb,kid,hk,SND,FST]
   rw[e];simp only[SND];simp[F.f176C,h2,hk]
 ·cases hb:isB a Q2
  ·have h2:=h1 Q2;rw[hb]at h2;simp only[Q2]at h2
   have e:QL READ [a]= .mk 3 READ 0 [a]:=by simp[QL,hb,SND,FST,DEC,Q6,QV,READ]
   rw[e];simp only[READ];simp[F.f176C,h2]
  ·have h2:=h1 Q2;rw[hb]at h2;simp only[Q2]at h2
   obtain⟨x,y,hk⟩:=Q3 hg hb (by simp[Q8]);have e:QL READ [a]=x:=by simp[QL,hb,kid,hk,SND,FST,DEC,Q6,QV,READ]
   rw[e];simp only[READ];simp[F.f176C,h2,hk]
theorem Qfw (n:List UInt8) (a key:Tm) (bs:List (List AV)) (hn:n=DEC∨n=Q6∨n=QV) (hg:Q1 a=true) (hgk:Q1 key=true) (hm:a.mass < big - 10) (hmk:key.mass < big - 10):
  call F.tb 176 [.agg (Qa (.mk 3 n 0 [a,key]))] bs=some (.agg (Qa (QL n [a,key])),bs):=by
 have h1:=fun t m=>Rz t m bs;rw[Qb F.tb_176 _ _ rfl];rcases hn with rfl | rfl | rfl
 ·cases hb:isB a ENC
  ·have h2:=h1 a ENC;rw[hb]at h2;simp only[ENC]at h2
   have e:QL DEC [a,key]= .mk 3 DEC 0 [a,key]:=by simp[QL,hb,SND,FST,DEC]
   rw[e];simp only[DEC];simp[F.f176C,h2]
  ·have h2:=h1 a ENC;rw[hb]at h2;simp only[ENC]at h2
   obtain⟨x,y,hk⟩:=Q3 hg hb (by simp[Q8]);have hma:=Qo a;rw[hk]at hma;simp only[massL]at hma;have h3:=Lk y key bs (by omega) (by omega);by_cases hc:Qm y key=0
   ·have e:QL DEC [a,key]=x:=by simp[QL,hb,kid,hk,hc,SND,FST,DEC]
    rw[e];simp only[DEC];simp[F.f176C,h2,h3,hc,hk]
   ·have e:QL DEC [a,key]= .mk 3 DEC 0 [a,key]:=by simp[QL,hb,kid,hk,hc,SND,FST,DEC]
    rw[e];simp only[DEC];simp[F.f176C,h2,h3,hc,hk]
 ·cases hb:isB a Zb
  ·have h2:=h1 a Zb;rw[hb]at h2;simp only[Zb]at h2
   have e:QL Q6 [a,key]= .mk 3 Q6 0 [a,key]:=by simp[QL,hb,SND,FST,DEC,Q6]
   rw[e];simp only[Q6];simp[F.f176C,h2]
  ·have h2:=h1 a Zb;rw[hb]at h2;simp only[Zb]at h2
   obtain⟨x,y,hk⟩:=Q3 hg hb (by simp[Q8]);have hma:=Qo a;have hgy:Q1 y=true:=by
    have:=Xh hg;rw[hk]at this;simp[goodL]at this;exact this.2
   rw[hk]at hma;simp only[massL]at hma;have hpk:=BU hgy key;have h4:=h1 y PK;have e0:QL Q6 [a,key]=if isB y PK && decide (Qm (kid y 0) key=0)then x else .mk 3 Q6 0 [a,key]:=by
    rw[← hpk];simp[QL,hb,kid,hk,SND,FST,DEC,Q6]
   rw[e0];cases hbp:isB y PK
   ·rw[hbp]at h4;simp only[PK]at h4
    simp only[Q6];simp[F.f176C,h2,h4,hk]
   ·rw[hbp]at h4;simp only[PK]at h4
    obtain⟨hyk,hyn⟩:=Ti.1 hbp;have har:=(XN hgy hyk).2;rw[hyn]at har;have hl1:y.kids.length=1:=by simpa[Q8,PK,Ze,ENC,Zb,Q2,EXP,DEC,Q6,QV]using har
    obtain⟨z,hz⟩:=List.length_eq_one_iff.1 hl1;have hmy:=Qo y;rw[hz]at hmy;simp only[massL]at hmy;have h3:=Lk z key bs (by omega) (by omega);have hk0:kid y 0=z:=by simp[kid,hz]
    rw[hk0];by_cases hc:Qm z key=0
    ·simp only[Q6];simp[F.f176C,h2,h3,h4,hc,hk,hz]
    ·simp only[Q6];simp[F.f176C,h2,h3,h4,hc,hk,hz]
 ·cases hb:isB a Q2
  ·have h2:=h1 a Q2;rw[hb]at h2;simp only[Q2]at h2
   have e:QL QV [a,key]= .mk 3 QV 0 [a,key]:=by simp[QL,hb,SND,FST,DEC,Q6,QV]
   rw[e];simp only[QV];simp[F.f176C,h2]
  ·have h2:=h1 a Q2;rw[hb]at h2;simp only[Q2]at h2
   obtain⟨x,y,hk⟩:=Q3 hg hb (by simp[Q8]);have hma:=Qo a;rw[hk]at hma;simp only[massL]at hma;have hpk:=BU hgk y;have h4:=h1 key PK;have e0:QL QV [a,key]=if isB key PK && decide (Qm (kid key 0) y=0)then x else .mk 3 QV 0 [a,key]:=by
    rw[← hpk];simp[QL,hb,kid,hk,SND,FST,DEC,Q6,QV]
   rw[e0];cases hbp:isB key PK
   ·rw[hbp]at h4;simp only[PK]at h4
    simp only[QV];simp[F.f176C,h2,h4,hk]
   ·rw[hbp]at h4;simp only[PK]at h4
    obtain⟨hyk,hyn⟩:=Ti.1 hbp;have har:=(XN hgk hyk).2;rw[hyn]at har;have hl1:key.kids.length=1:=by simpa[Q8,PK,Ze,ENC,Zb,Q2,EXP,DEC,Q6,QV]using har
    obtain⟨z,hz⟩:=List.length_eq_one_iff.1 hl1;have hmy:=Qo key;rw[hz]at hmy;simp only[massL]at hmy;have h3:=Lk y z bs (by omega) (by omega);have hk0:kid key 0=z:=by simp[kid,hz]
    have hsym: (Qm z y=0)=(Qm y z=0):=by
     have:=XJ y z;rw[eq_iff_iff];omega
    rw[hk0];by_cases hc:Qm y z=0
    ·simp only[QV];simp[F.f176C,h2,h3,h4,hc,hk,hz,hsym]
    ·simp only[QV];simp[F.f176C,h2,h3,h4,hc,hk,hz,hsym]
theorem Db (t:Tm): (pkT t).mass=t.mass+4:=by simp only[pkT,Tm.mass,massL,PK,List.length_cons,List.length_nil];omega
def QeV (t:Tm) (bs:List (List AV)) (r:Out):Prop:=∃b,r=some (.tup [.agg (Qa t),.bool b],bs)
theorem Qbc (n:List UInt8) (a:Tm) (bs:List (List AV)) (hn:n=FST∨n=SND∨n=READ) (hg:Q1 a=true) (hm:a.mass < big):
  QeV (QL n [a]) bs (call F.tb 243 [.agg (Qa (.mk 3 n 0 [a]))] bs):=by
 have h1:=fun m=>Un a m bs;rw[Qb F.tb_243 _ _ rfl];rcases hn with rfl | rfl | rfl
 ·cases hb:isB a Ze
  ·have h2:=h1 Ze;rw[hb]at h2;simp only[Ze]at h2
   have e:QL FST [a]= .mk 3 FST 0 [a]:=by simp[QL,hb]
   rw[e];refine⟨false,?_⟩;simp only[FST];simp[F.f243C,h2]
  ·have h2:=h1 Ze;rw[hb]at h2;simp only[Ze]at h2
   obtain⟨x,y,hk⟩:=Q3 hg hb (by simp[Q8]);have e:QL FST [a]=x:=by simp[QL,hb,kid,hk]
   rw[e];refine⟨true,?_⟩;simp only[FST];simp[F.f243C,h2,hk]
 ·cases hb:isB a Ze
  ·have h2:=h1 Ze;rw[hb]at h2;simp only[Ze]at h2
   have e:QL SND [a]= .mk 3 SND 0 [a]:=by simp[QL,hb,SND,FST]
   rw[e];refine⟨false,?_⟩;simp only[SND];simp[F.f243C,h2]
  ·have h2:=h1 Ze;rw[hb]at h2;simp only[Ze]at h2
   obtain⟨x,y,hk⟩:=Q3 hg hb (by simp[Q8]);have e:QL SND [a]=y:=by simp[QL,hb,kid,hk,SND,FST]
   rw[e];refine⟨true,?_⟩;simp only[SND];simp[F.f243C,h2,hk]
 ·cases hb:isB a Q2
  ·have h2:=h1 Q2;rw[hb]at h2;simp only[Q2]at h2
   have e:QL READ [a]= .mk 3 READ 0 [a]:=by simp[QL,hb,SND,FST,DEC,Q6,QV,READ]
   rw[e];refine⟨false,?_⟩;simp only[READ];simp[F.f243C,h2]
  ·have h2:=h1 Q2;rw[hb]at h2;simp only[Q2]at h2
   obtain⟨x,y,hk⟩:=Q3 hg hb (by simp[Q8]);have e:QL READ [a]=x:=by simp[QL,hb,kid,hk,SND,FST,DEC,Q6,QV,READ]
   rw[e];refine⟨true,?_⟩;simp only[READ];simp[F.f243C,h2,hk]
theorem Qbd (n:List UInt8) (a key:Tm) (bs:List (List AV)) (hn:n=DEC∨n=Q6∨n=QV) (hg:Q1 a=true) (hm:a.mass < big - 10) (hmk:key.mass < big - 10):
  QeV (QL n [a,key]) bs (call F.tb 243 [.agg (Qa (.mk 3 n 0 [a,key]))] bs):=by
 have h1:=fun t m=>Un t m bs;rw[Qb F.tb_243 _ _ rfl];rcases hn with rfl | rfl | rfl
 ·cases hb:isB a ENC
  ·have h2:=h1 a ENC;rw[hb]at h2;simp only[ENC]at h2
   have e:QL DEC [a,key]= .mk 3 DEC 0 [a,key]:=by simp[QL,hb,SND,FST,DEC]
   rw[e];refine⟨false,?_⟩;simp only[DEC];simp[F.f243C,h2]
  ·have h2:=h1 a ENC;rw[hb]at h2;simp only[ENC]at h2
   obtain⟨x,y,hk⟩:=Q3 hg hb (by simp[Q8]);have hma:=Qo a;rw[hk]at hma;simp only[massL]at hma;have h3:=Xa y key bs (by omega) (by omega);by_cases hc:Qm y key=0
   ·have e:QL DEC [a,key]=x:=by simp[QL,hb,kid,hk,hc,SND,FST,DEC]
    rw[e];refine⟨true,?_⟩;simp only[DEC];simp[F.f243C,h2,h3,hc,hk]
   ·have e:QL DEC [a,key]= .mk 3 DEC 0 [a,key]:=by simp[QL,hb,kid,hk,hc,SND,FST,DEC]
    rw[e];refine⟨false,?_⟩;simp only[DEC];simp[F.f243C,h2,h3,hc,hk]
 ·cases hb:isB a Zb
  ·have h2:=h1 a Zb;rw[hb]at h2;simp only[Zb]at h2
   have e:QL Q6 [a,key]= .mk 3 Q6 0 [a,key]:=by simp[QL,hb,SND,FST,DEC,Q6]
   rw[e];refine⟨false,?_⟩;simp only[Q6];simp[F.f243C,h2]
  ·have h2:=h1 a Zb;rw[hb]at h2;simp only[Zb]at h2
   obtain⟨x,y,hk⟩:=Q3 hg hb (by simp[Q8]);have hma:=Qo a;rw[hk]at hma;simp only[massL]at hma;have hpm: (pkT key).mass < big:=by rw[Db];unfold big at *;omega
   have h3:=Xa y (pkT key) bs (by omega) hpm;have h4:=Y4 PK [key] false bs (by simp);simp only[pkT,PK]at h3 h4;by_cases hc:Qm y (pkT key)=0
   ·have e:QL Q6 [a,key]=x:=by simp[QL,hb,kid,hk,hc,SND,FST,DEC,Q6]
    rw[e];refine⟨true,?_⟩;simp only[pkT,PK]at hc;simp only[Q6];simp[F.f243C,h2,h3,h4,hc,hk,Q7]
   ·have e:QL Q6 [a,key]= .mk 3 Q6 0 [a,key]:=by simp[QL,hb,kid,hk,hc,SND,FST,DEC,Q6]
    rw[e];refine⟨false,?_⟩;simp only[pkT,PK]at hc;simp only[Q6];simp[F.f243C,h2,h3,h4,hc,hk,Q7]
 ·cases hb:isB a Q2
  ·have h2:=h1 a Q2;rw[hb]at h2;simp only[Q2]at h2
   have e:QL QV [a,key]= .mk 3 QV 0 [a,key]:=by simp[QL,hb,SND,FST,DEC,Q6,QV]
   rw[e];refine⟨false,?_⟩;simp only[QV];simp[F.f243C,h2]
  ·have h2:=h1 a Q2;rw[hb]at h2;simp only[Q2]at h2
   obtain⟨x,y,hk⟩:=Q3 hg hb (by simp[Q8]);have hma:=Qo a;rw[hk]at hma;simp only[massL]at hma;have hpm: (pkT y).mass < big:=by rw[Db];unfold big at *;omega
   have h3:=Xa key (pkT y) bs (by omega) hpm;have h4:=Y4 PK [y] false bs (by simp);simp only[pkT,PK]at h3 h4;by_cases hc:Qm key (pkT y)=0
   ·have e:QL QV [a,key]=x:=by simp[QL,hb,kid,hk,hc,SND,FST,DEC,Q6,QV]
    rw[e];refine⟨true,?_⟩;simp only[pkT,PK]at hc;simp only[QV];simp[F.f243C,h2,h3,h4,hc,hk,Q7]
   ·have e:QL QV [a,key]= .mk 3 QV 0 [a,key]:=by simp[QL,hb,kid,hk,hc,SND,FST,DEC,Q6,QV]
    rw[e];refine⟨false,?_⟩;simp only[pkT,PK]at hc;simp only[QV];simp[F.f243C,h2,h3,h4,hc,hk,Q7]
def KM (l:List Pw) (M:Nat):Prop:=∀q∈l,q.1.mass≤M
theorem B4 {l:List Pw} {t:Tm} {m:Int} {M:Nat} (h:KM l M) (ht:t.mass≤M):KM (Yz l t m) M:=by
 intro q hq;rcases U6 hq with hq | rfl | ⟨_,_,rfl,_⟩
 ·exact h q hq
 ·exact ht
 ·exact ht
theorem Qj4: ∀(t:Tm) (l:List Pw) (m:Int) (M:Nat),KM l M→t.mass≤M→KM (We l t m) M:=by
 refine Zp ?_;intro k n s ks ih l m M h hm;have hme:=Qo (.mk k n s ks);simp only[QN,Q5]at hme;have hL: ∀(xs:List Tm) (l:List Pw) (m:Int),(∀x∈xs,x∈ks)→KM l M→KM (colL l xs m) M:=by
  intro xs
  induction xs with
  | nil=>intro l m _ h;simpa[colL]using h
  | cons x xs IH=>
   intro l m hx h;simp only[colL];exact IH _ m (fun y hy=>hx y (by simp[hy])) (ih x (hx x (by simp)) l m M h (by have:=QD (hx x (by simp));omega))
 rw[OX];split
 ·exact hL ks l _ (fun x hx=>hx) h
 ·exact B4 h hm
theorem Ji: ∀(b a:List Pw) (M:Nat),KM a M→KM b M→KM (Xs a b) M
 | [],a,M,h,_=>h
 | q:: b,a,M,h,hb=>Ji b _ M (B4 h (hb q (by simp))) fun x hx=>hb x (by simp[hx])
theorem O3 (t:Tm) (M:Nat) (h:t.mass≤M):KM (ofP t) M:=by
 unfold ofP;split
 ·exact Qj4 t [] 1 M (fun q hq=>by simp at hq) h
 ·intro q hq;simp at hq
theorem SX (t:Tm): (ofP t).length≤200:=by
 unfold ofP;split
 ·rename_i h;unfold ofE at h;split at h
  ·rename_i h1;exact absurd h h1
  ·split at h
   ·split at h
    ·cases h
    ·omega
   ·cases h
 ·simp
theorem QaF {l:List Pw} (h:Yk l=0):l.length≤200:=by
 unfold Yk at h;split at h
 ·cases h
 ·split at h
  ·cases h
  ·omega
theorem E0 (a b:List Pw): (XU a b).length≤200:=by
 unfold XU;split
 ·rename_i h;unfold Wq at h;split at h
  ·rename_i h1;exact absurd h h1
  ·split at h
   ·rename_i h1;exact absurd h h1
   ·exact QaF h
 ·simp
theorem B5 {a b:List Pw} {M:Nat} (ha:KM a M) (hb:KM b M):KM (XU a b) M:=by
 unfold XU;split
 ·exact Ji b a M ha hb
 ·intro q hq;simp at hq
theorem Hu (n:Nat) (t:Tm):massL (List.replicate n t)=n*t.mass:=by
 induction n with
 | zero=>simp[massL]
 | succ n ih=>rw[List.replicate_succ,massL,ih,Nat.succ_mul];omega
theorem QdS (t:Tm): (Uq t).mass=t.mass+5:=by simp only[Uq,Tm.mass,massL,INV,List.length_cons,List.length_nil];omega
theorem Jq: ∀{l:List Pw} {M:Nat},KM l M→(∀q∈l,q.2≤8)→massL (XQ l)≤l.length* (8*M)
 | [],M,_,_=>by simp[XQ,massL]
 | p:: l,M,h,hb=>by
  have h1:=Jq (l:=l) (M:=M) (fun q hq=>h q (by simp[hq])) fun q hq=>hb q (by simp[hq]);have h2:=h p (by simp);have h3:=hb p (by simp);have h4:p.2.toNat* p.1.mass≤8*M:=Nat.mul_le_mul (by omega) h2;have e:XQ (p:: l)=List.replicate p.2.toNat p.1 ++ XQ l:=by simp[XQ]
  rw[e,YT,Hu,List.length_cons,Nat.succ_mul];omega
theorem Jo: ∀{l:List Pw} {M:Nat},KM l M→(∀q∈l,-8≤q.2)→massL (X0 l)≤l.length* (8* (M+5))
 | [],M,_,_=>by simp[X0,massL]
 | p:: l,M,h,hb=>by
  have h1:=Jo (l:=l) (M:=M) (fun q hq=>h q (by simp[hq])) fun q hq=>hb q (by simp[hq]);have h2:=h p (by simp);have h3:=hb p (by simp);have h4: (-p.2).toNat* (Uq p.1).mass≤8* (M+5):=Nat.mul_le_mul (by omega) (by rw[QdS];omega);have e:X0 (p:: l)=List.replicate (-p.2).toNat (Uq p.1)++ X0 l:=by simp[X0]
  rw[e,YT,Hu,List.length_cons,Nat.succ_mul];omega
theorem Jp {l:List Pw} (h:KM l 25000000) (hl:l.length≤200) (hb: ∀q∈l,-8≤q.2∧q.2≤8):massL (ZJ l) < big - 100:=by
 have h1:=Jq h fun q hq=>(hb q hq).2;have h2:=Jo h fun q hq=>(hb q hq).1;have h3:l.length* (8*25000000)≤200* (8*25000000):=Nat.mul_le_mul_right _ hl;have h4:l.length* (8* (25000000+5))≤200* (8* (25000000+5)):=Nat.mul_le_mul_right _ hl;unfold ZJ;rw[YT];unfold big;omega
theorem L6 {l:List Pw} (o:Bool) (bs:List (List AV)) (h:KM l 25000000) (hl:l.length≤200):call F.tb 196 [.sl o 5 (QQ l)] bs=some (QS (ZQ l),bs):=
 Qib l o bs (by omega) (fun q hq=>by have:=h q hq;unfold big;omega) (Jp h hl)
theorem L7 {l:List Pw} (o:Bool) (bs:List (List AV)) (h:KM l 25000000) (hl:l.length≤200):call F.tb 258 [.sl o 5 (QQ l)] bs=some (QS (ZQ l),bs):=
 Qiz l o bs (by omega) (fun q hq=>by have:=h q hq;unfold big;omega) (Jp h hl)
def WO (b:Tm) (p:List Pw):Tm×Int:=if p=[]then(b,0)else if(ZQ p).2≠0 then(Qw,(ZQ p).2)else(.mk 3 EXP 0 [b,(ZQ p).1],0)
def Xl (b e:Tm):Tm×Int:=
 if ofE e≠0 then(Qw,ofE e)
 else if isB b EXP then
  if ofE (kid b 1)≠0 then(Qw,ofE (kid b 1))else if Wq (ofP (kid b 1)) (ofP e)≠0 then(Qw,Wq (ofP (kid b 1)) (ofP e))else WO (kid b 0) (XU (ofP (kid b 1)) (ofP e))
 else WO b (ofP e)
def YG (t:Tm):Tm×Int:=if ofE t≠0 then(Qw,ofE t)else ZQ (ofP t)
theorem QM (t:Tm) (e:Int):QS (t,e)= .tup [.agg (Qa t),.int .i64 e]:=rfl
theorem Qix (t:Tm) (bs:List (List AV)) (hm:t.mass < 20000000):call F.tb 252 [.agg (Qa t)] bs=some (QS (YG t),bs):=by
 have h1:=Ik t bs (by omega);have h2:=L7 false bs (O3 t 25000000 (by omega)) (SX t);rw[Qb F.tb_252 _ _ rfl];by_cases c:ofE t=0
 ·have e:YG t=ZQ (ofP t):=by simp[YG,c]
  rw[e];simp only[QS]at h2 ⊢;simp[F.f252C,h1,h2,c]
 ·have e:YG t=(Qw,ofE t):=by simp[YG,c]
  rw[e];simp[F.f252C,h1,c,QM,QE]
theorem Qic (b e:Tm) (bs:List (List AV)) (hg:Q1 b=true) (hb:b.mass < 20000000) (he:e.mass < 20000000):call F.tb 199 [.agg (Qa b),.agg (Qa e)] bs=some (QS (Xl b e),bs):=by
 have h1:=Ig e bs (by omega);have h2:=Rz b EXP bs;have ke:=O3 e 25000000 (by omega);have le:=SX e;rw[Qb F.tb_199 _ _ rfl];by_cases c1:ofE e=0
 ·cases hx:isB b EXP
  ·rw[hx]at h2;simp only[EXP]at h2
   have h4:=L6 false bs ke le;have e0:Xl b e=WO b (ofP e):=by simp[Xl,c1,hx]
   rw[e0];generalize ofP e=p at *
   match p with
   | []=>
    simp only[XL]at h1;simp[F.f199C,h1,h2,c1,WO,QM]
   | q:: r=>
    have n0: ¬(r.length:Int)+1=0:=by omega
    by_cases c2: (ZQ (q:: r)).2=0
    ·have h5:=Ec EXP [b,(ZQ (q:: r)).1] false bs;simp only[QS,encTs]at h4 h5;simp only[EXP]at h5;simp[F.f199C,h1,h2,h4,h5,c1,c2,n0,WO,QM,EXP]
    ·simp only[QS]at h4;simp[F.f199C,h1,h2,h4,c1,c2,n0,WO,QM,QE]
  ·obtain⟨x,y,hk⟩:=Q3 hg hx (by simp[Q8]);rw[hx]at h2;simp only[EXP]at h2
   have hmb:=Qo b;rw[hk]at hmb;simp only[massL]at hmb;have k0:kid b 0=x:=by simp[kid,hk]
   have k1:kid b 1=y:=by simp[kid,hk]
   have h3:=Ig y bs (by omega);have ky:=O3 y 25000000 (by omega);have ly:=SX y;by_cases c2:ofE y=0
   ·have h4:=Qid (ofP y) (ofP e) false false bs (by omega) (by omega) (fun q hq=>by have:=ky q hq;unfold big;omega) (fun q hq=>by have:=ke q hq;unfold big;omega);by_cases c3:Wq (ofP y) (ofP e)=0
    ·have h6:=L6 false bs (B5 ky ke) (E0 (ofP y) (ofP e));have e0:Xl b e=WO x (XU (ofP y) (ofP e)):=by simp[Xl,c1,hx,k0,k1,c2,c3]
     rw[e0];generalize XU (ofP y) (ofP e)=p at *
     match p with
     | []=>
      simp only[XL]at h4;simp[F.f199C,h1,h2,h3,h4,hk,c1,c2,c3,WO,QM]
     | q:: r=>
      have n0: ¬(r.length:Int)+1=0:=by omega
      by_cases c4: (ZQ (q:: r)).2=0
      ·have h5:=Ec EXP [x,(ZQ (q:: r)).1] false bs;simp only[QS,encTs]at h6 h5;simp only[EXP]at h5;simp[F.f199C,h1,h2,h3,h4,h5,h6,hk,c1,c2,c3,c4,n0,WO,QM,EXP]
      ·simp only[QS]at h6;simp[F.f199C,h1,h2,h3,h4,h6,hk,c1,c2,c3,c4,n0,WO,QM,QE]
    ·have e0:Xl b e=(Qw,Wq (ofP y) (ofP e)):=by simp[Xl,c1,hx,k1,c2,c3]
     rw[e0];simp[F.f199C,h1,h2,h3,h4,hk,c1,c2,c3,QM,QE]
   ·have e0:Xl b e=(Qw,ofE y):=by simp[Xl,c1,hx,k1,c2]
    rw[e0];simp[F.f199C,h1,h2,h3,hk,c1,c2,QM,QE]
 ·have e0:Xl b e=(Qw,ofE e):=by simp[Xl,c1]
  rw[e0];simp[F.f199C,h1,c1,QM,QE]
theorem QiB (b e:Tm) (bs:List (List AV)) (hg:Q1 b=true) (hb:b.mass < 20000000) (he:e.mass < 20000000):call F.tb 261 [.agg (Qa b),.agg (Qa e)] bs=some (QS (Xl b e),bs):=by
 have h1:=Ik e bs (by omega);have h2:=Un b EXP bs;have ke:=O3 e 25000000 (by omega);have le:=SX e;rw[Qb F.tb_261 _ _ rfl];by_cases c1:ofE e=0
 ·cases hx:isB b EXP
  ·rw[hx]at h2;simp only[EXP]at h2
   have h4:=L7 false bs ke le;have e0:Xl b e=WO b (ofP e):=by simp[Xl,c1,hx]
   rw[e0];generalize ofP e=p at *
   match p with
   | []=>
    simp only[XL]at h1;simp[F.f261C,h1,h2,c1,WO,QM]
   | q:: r=>
    have n0: ¬(r.length:Int)+1=0:=by omega
    by_cases c2: (ZQ (q:: r)).2=0
    ·have h5:=Y4 EXP [b,(ZQ (q:: r)).1] false bs (by simp);simp only[QS,encTs]at h4 h5;simp only[EXP]at h5;simp[F.f261C,h1,h2,h4,h5,c1,c2,n0,WO,QM,EXP]
    ·simp only[QS]at h4;simp[F.f261C,h1,h2,h4,c1,c2,n0,WO,QM,QE]
  ·obtain⟨x,y,hk⟩:=Q3 hg hx (by simp[Q8]);rw[hx]at h2;simp only[EXP]at h2
   have hmb:=Qo b;rw[hk]at hmb;simp only[massL]at hmb;have k0:kid b 0=x:=by simp[kid,hk]
   have k1:kid b 1=y:=by simp[kid,hk]
   have h3:=Ik y bs (by omega);have ky:=O3 y 25000000 (by omega);have ly:=SX y;by_cases c2:ofE y=0
   ·have h4:=QiC (ofP y) (ofP e) false false bs (by omega) (by omega) (fun q hq=>by have:=ky q hq;unfold big;omega) (fun q hq=>by have:=ke q hq;unfold big;omega);by_cases c3:Wq (ofP y) (ofP e)=0
    ·have h6:=L7 false bs (B5 ky ke) (E0 (ofP y) (ofP e));have e0:Xl b e=WO x (XU (ofP y) (ofP e)):=by simp[Xl,c1,hx,k0,k1,c2,c3]
     rw[e0];generalize XU (ofP y) (ofP e)=p at *
     match p with
     | []=>
      simp only[XL]at h4;simp[F.f261C,h1,h2,h3,h4,hk,c1,c2,c3,WO,QM]
     | q:: r=>
      have n0: ¬(r.length:Int)+1=0:=by omega
      by_cases c4: (ZQ (q:: r)).2=0
      ·have h5:=Y4 EXP [x,(ZQ (q:: r)).1] false bs (by simp);simp only[QS,encTs]at h6 h5;simp only[EXP]at h5;simp[F.f261C,h1,h2,h3,h4,h5,h6,hk,c1,c2,c3,c4,n0,WO,QM,EXP]
      ·simp only[QS]at h6;simp[F.f261C,h1,h2,h3,h4,h6,hk,c1,c2,c3,c4,n0,WO,QM,QE]
    ·have e0:Xl b e=(Qw,Wq (ofP y) (ofP e)):=by simp[Xl,c1,hx,k1,c2,c3]
     rw[e0];simp[F.f261C,h1,h2,h3,h4,hk,c1,c2,c3,QM,QE]
   ·have e0:Xl b e=(Qw,ofE y):=by simp[Xl,c1,hx,k1,c2]
    rw[e0];simp[F.f261C,h1,h2,h3,hk,c1,c2,QM,QE]
 ·have e0:Xl b e=(Qw,ofE e):=by simp[Xl,c1]
  rw[e0];simp[F.f261C,h1,c1,QM,QE]
theorem LW {n:List UInt8} (h:Y6 n=true):n.length≤24:=by
 cases n with
 | nil=>simp
 | cons c r=>
  simp only[Y6,Bool.and_eq_true,decide_eq_true_eq]at h;simp only[List.length_cons];omega
theorem Ur {t:Tm} (h:Xd t=0):t.name.length≤24∧t.kids.length≤8∧(t.kind=3→t.sort=0)∧(t.kind≠3→t.kids=[]):=by
 unfold Xd at h;split at h
 ·rename_i hk;split at h
  ·cases h
  ·rename_i h1;split at h
   ·cases h
   ·rename_i h2;have h3:t.kids.length=0:=by omega
    exact⟨LW (by simpa using h2),by omega,fun e=>by omega,fun _=>List.eq_nil_of_length_eq_zero h3⟩
 ·split at h
  ·rename_i hk;split at h
   ·cases h
   ·rename_i h1;split at h
    ·cases h
    ·rename_i h2;split at h
     ·cases h
     ·exact⟨LW (by simpa using h2),by omega,fun _=>by simpa using h1,fun e=>absurd hk e⟩
  ·cases h
mutual
theorem Hh: ∀t:Tm,ZI t=0→t.mass≤33*t.nodes
 | .mk k n s ks,h=>by
  simp only[ZI]at h;split at h
  ·rename_i h1;exact absurd h h1
  ·rename_i h1;obtain⟨a,b,_⟩:=Ur (t:= .mk k n s ks) (by simpa using h1);have:=errL_mass ks h;simp only[Q5,QN]at a b;simp only[Tm.mass,Tm.nodes];omega
theorem errL_mass: ∀ts:List Tm,errL ts=0→massL ts≤33*nodesL ts
 | [],_=>by simp[massL,nodesL]
 | t:: ts,h=>by
  simp only[errL]at h;split at h
  ·rename_i h1;exact absurd h h1
  ·rename_i h1;have a:=Hh t (by simpa using h1);have b:=errL_mass ts h;simp only[massL,nodesL];omega
end
theorem YX {t:Tm} (h:QF t=0):ZI t=0∧t.nodes≤400∧t.mass≤13200:=by
 unfold QF at h;split at h
 ·rename_i h1;exact absurd h h1
 ·rename_i h1;split at h
  ·cases h
  ·have:=Hh t (by simpa using h1);exact⟨by simpa using h1,by omega,by omega⟩
theorem Qdz {n:List UInt8} {y:Sy} (h:Zs n YA=some y) (m:Nat) (h1: ¬((m:Int) < y.l∨y.m < m)):Q8 n m=true:=by
 unfold Q8;split
 ·rename_i hn;have:y.l=2∧y.m=2:=by rcases hn with rfl | rfl | rfl | rfl | rfl | rfl | rfl | rfl <;> simp[Ze,ENC,Zb,Q2,EXP,DEC,Q6,QV,Zs,YA]at h <;> subst h <;> simp
  simp;omega
 ·split
  ·rename_i hn;have:y.l=1∧y.m=1:=by rcases hn with rfl | rfl | rfl | rfl <;> simp[PK,FST,SND,READ,Zs,YA]at h <;> subst h <;> simp
   simp;omega
  ·rfl
mutual
theorem Ja: ∀t:Tm,ZI t=0→Z8 t=0→Q1 t=true
 | .mk k n s ks,h,hc=>by
  simp only[ZI]at h;split at h
  ·rename_i h1;exact absurd h h1
  ·rename_i h1;obtain⟨_,_,a,b⟩:=Ur (t:= .mk k n s ks) (by simpa using h1);simp only[YJ,Wu,QN]at a b;simp only[Z8]at hc;by_cases hk:k=3
   ·subst hk;rw[if_neg (by simp)]at hc;cases hy:Zs n YA with
    | none=>rw[hy]at hc;simp at hc
    | some y=>
     rw[hy]at hc;simp only at hc;split at hc
     ·cases hc
     ·rename_i h2;have har:=Qdz hy ks.length h2;split at hc
      ·cases hc
      ·split at hc
       ·cases hc
       ·have:=goodL_valid ks h hc;simp[Q1,a rfl,har,this]
   ·have:=b hk;subst this;simp[Q1,hk,goodL]
theorem goodL_valid: ∀ts:List Tm,errL ts=0→chkL ts=0→goodL ts=true
 | [],_,_=>rfl
 | t:: ts,h,hc=>by
  simp only[errL]at h;simp only[chkL]at hc;split at h
  ·rename_i h1;exact absurd h h1
  ·rename_i h1;split at hc
   ·rename_i h2;exact absurd hc h2
   ·rename_i h2;simp[goodL,Ja t (by simpa using h1) (by simpa using h2),goodL_valid ts h hc]
end
mutual
theorem QdI: ∀(t y:Tm),Q1 t=true→y∈QY t→Q1 y=true
 | .mk k n s ks,y,h,hy=>by
  simp only[QY,List.mem_cons]at hy;rcases hy with rfl | hy
  ·exact h
  ·exact good_allL ks y (Xh h) hy
theorem good_allL: ∀(ts:List Tm) (y:Tm),goodL ts=true→y∈allL ts→Q1 y=true
 | [],y,_,hy=>by simp[allL]at hy
 | t:: ts,y,h,hy=>by
  simp only[goodL,Bool.and_eq_true]at h;simp only[allL,List.mem_append]at hy;rcases hy with hy | hy
  ·exact QdI t y h.1 hy
  ·exact good_allL ts y h.2 hy
end
theorem XO:Q1 Qw=true:=by simp[Qw,Q1,goodL]
theorem Up {n:List UInt8} {us:List Tm} (ha:Q8 n us.length=true) (h:goodL us=true):Q1 (.mk 3 n 0 us)=true:=by simp[Q1,ha,h]
theorem Kh {t:Tm} (h:Q1 t=true) (i:Nat):Q1 (kid t i)=true:=by
 unfold kid;rw[List.getD_eq_getElem?_getD];cases hg:t.kids[i]? with
 | none=>simpa using XO
 | some x=>exact Y5.1 (Xh h) x (List.mem_of_getElem? hg)
theorem Ny (t:Tm) (i:Nat): (kid t i).mass≤t.mass:=by
 unfold kid;rw[List.getD_eq_getElem?_getD];have:=Qo t;cases hg:t.kids[i]? with
 | none=>simp[Qw,Tm.mass,massL];omega
 | some x=>have:=QD (List.mem_of_getElem? hg);simp;omega
theorem QdK {us:List Tm} (h:goodL us=true):Q1 (WQ us).1=true:=by
 unfold WQ;split
 ·exact XO
 ·split
  ·exact XO
  ·have hL: ∀y∈sumL [] us,Q1 y=true:=fun y hy=>by
    rcases sumL_mem us [] y hy with h1 | h1
    ·simp at h1
    ·exact good_allL us y h h1
   show Q1 (tmX (sumL [] us))=true
   match hh:sumL [] us with
   | []=>simp[tmX,Q1,goodL,Q8,Zy,Ze,ENC,Zb,Q2,EXP,DEC,Q6,QV,PK,FST,SND,READ]
   | [p]=>simp only[tmX];exact hL p (by rw[hh];simp)
   | p:: q:: r=>
    simp only[tmX];refine Up (by simp[Q8,XOR,Ze,ENC,Zb,Q2,EXP,DEC,Q6,QV,PK,FST,SND,READ]) (Y5.2 fun x hx=>hL x (by rw[hh];exact hx))
theorem QdZ (us:List Tm): (WQ us).1.mass≤13200:=by
 unfold WQ;split
 ·simp[Qw,Tm.mass,massL]
 ·split
  ·simp[Qw,Tm.mass,massL]
  ·rename_i h;exact(YX (by simpa using h)).2.2
theorem W4:Qw.mass=1:=by simp[Qw,Tm.mass,massL]
def KG (l:List Pw):Prop:=∀q∈l,Q1 q.1=true
theorem BZ {l:List Pw} {t:Tm} {m:Int} (h:KG l) (ht:Q1 t=true):KG (Yz l t m):=by
 intro q hq;rcases U6 hq with hq | rfl | ⟨_,_,rfl,_⟩
 ·exact h q hq
 ·exact ht
 ·exact ht
theorem Qj2: ∀(t:Tm) (l:List Pw) (m:Int),KG l→Q1 t=true→KG (We l t m):=by
 refine Zp ?_;intro k n s ks ih l m h hm;have hk:=Y5.1 (Xh hm);have hL: ∀(xs:List Tm) (l:List Pw) (m:Int),(∀x∈xs,x∈ks)→KG l→KG (colL l xs m):=by
  intro xs
  induction xs with
  | nil=>intro l m _ h;simpa[colL]using h
  | cons x xs IH=>
   intro l m hx h;simp only[colL];exact IH _ m (fun y hy=>hx y (by simp[hy])) (ih x (hx x (by simp)) l m h (hk x (hx x (by simp))))
 rw[OX];split
 ·exact hL ks l _ (fun x hx=>hx) h
 ·exact BZ h hm
theorem Jg: ∀(b a:List Pw),KG a→KG b→KG (Xs a b)
 | [],a,h,_=>h
 | q:: b,a,h,hb=>Jg b _ (BZ h (hb q (by simp))) fun x hx=>hb x (by simp[hx])
theorem Jh {t:Tm} (h:Q1 t=true):KG (ofP t):=by
 unfold ofP;split
 ·exact Qj2 t [] 1 (fun q hq=>by simp at hq) h
 ·intro q hq;simp at hq
theorem Qj3 {a b:List Pw} (ha:KG a) (hb:KG b):KG (XU a b):=by
 unfold XU;split
 ·exact Jg b a ha hb
 ·intro q hq;simp at hq
theorem QdJ {l:List Pw} (h:KG l):goodL (ZJ l)=true:=by
 refine Y5.2 fun x hx=> ?_;simp only[ZJ,XQ,X0,List.mem_append,List.mem_flatten,List.mem_map]at hx;rcases hx with⟨_,⟨q,hq,rfl⟩,hx⟩ | ⟨_,⟨q,hq,rfl⟩,hx⟩
 ·rw[List.eq_of_mem_replicate hx];exact h q hq
 ·rw[List.eq_of_mem_replicate hx];exact Up (by simp[Q8,INV,Ze,ENC,Zb,Q2,EXP,DEC,Q6,QV,PK,FST,SND,READ]) (by simp[goodL,h q hq])
theorem K9 {l:List Pw} (h:KG l):Q1 (ZQ l).1=true:=by
 unfold ZQ;split
 ·exact XO
 ·split
  ·exact XO
  ·split
   ·exact XO
   ·have hL:=QdJ h
    show Q1 (ZD (ZJ l))=true
    match hh:ZJ l with
    | []=>simp[ZD,Q1,goodL,Q8,ONE,Ze,ENC,Zb,Q2,EXP,DEC,Q6,QV,PK,FST,SND,READ]
    | [p]=>simp only[ZD];rw[hh]at hL;simpa[goodL]using hL
    | p:: q:: r=>
     simp only[ZD];rw[hh]at hL;exact Up (by simp[Q8,MUL,Ze,ENC,Zb,Q2,EXP,DEC,Q6,QV,PK,FST,SND,READ]) hL
theorem Jr (l:List Pw): (ZQ l).1.mass≤13200:=by
 unfold ZQ;split
 ·simp[Qw,Tm.mass,massL]
 ·split
  ·simp[Qw,Tm.mass,massL]
  ·split
   ·simp[Qw,Tm.mass,massL]
   ·rename_i h;exact(YX (by simpa using h)).2.2
theorem HV {t:Tm} (h:Q1 t=true):Q1 (YG t).1=true:=by
 unfold YG;split
 ·exact XO
 ·exact K9 (Jh h)
theorem HX (t:Tm): (YG t).1.mass≤13200:=by
 unfold YG;split
 ·simp[Qw,Tm.mass,massL]
 ·exact Jr _
theorem BP {b:Tm} {p:List Pw} (hb:Q1 b=true) (hp:KG p):Q1 (WO b p).1=true∧(WO b p).1.mass≤6+b.mass+13200:=by
 have h0:=Jr p;unfold WO;split
 ·exact⟨hb,by simp;omega⟩
 ·split
  ·exact⟨XO,by show Qw.mass≤_;rw[W4];omega⟩
  ·exact⟨Up (by simp[Q8]) (by simp[goodL,hb,K9 hp]),by simp only[Tm.mass,massL,EXP,List.length_cons,List.length_nil];omega⟩
theorem Qkh {b e:Tm} (hb:Q1 b=true) (he:Q1 e=true):Q1 (Xl b e).1=true∧(Xl b e).1.mass≤6+b.mass+13200:=by
 have hz:Q1 Qw=true∧Qw.mass≤6+b.mass+13200:=⟨XO,by show Qw.mass≤_;rw[W4];omega⟩;have hk:=Ny b 0;unfold Xl;split
 ·exact hz
 ·split
  ·split
   ·exact hz
   ·split
    ·exact hz
    ·obtain⟨h1,h2⟩:=BP (Kh hb 0) (Qj3 (Jh (Kh hb 1)) (Jh he));exact⟨h1,by omega⟩
  ·exact BP hb (Jh he)
theorem Qfu {n:List UInt8} {us:List Tm} (ha:Q8 n us.length=true) (h:goodL us=true):Q1 (QL n us)=true∧(QL n us).mass≤1+n.length+us.length+massL us:=by
 have hout:Q1 (.mk 3 n 0 us)=true∧(Tm.mk 3 n 0 us).mass≤1+n.length+us.length+massL us:=⟨Up ha h,by simp[Tm.mass]⟩;have ha0:Q1 (us.getD 0 Qw)=true∧(us.getD 0 Qw).mass≤1+massL us:=by
  cases us with
  | nil=>exact⟨XO,by simp[Qw,Tm.mass,massL]⟩
  | cons x r=>simp only[goodL,Bool.and_eq_true]at h;exact⟨h.1,by simp[massL];omega⟩
 have hkid: ∀i,Q1 (kid (us.getD 0 Qw) i)=true∧(kid (us.getD 0 Qw) i).mass≤1+n.length+us.length+massL us:=fun i=>⟨Kh ha0.1 i,by have:=Ny (us.getD 0 Qw) i;omega⟩;simp only[QL]
 repeat' split
 all_goals first | exact hout | exact hkid _
def Yb (n:List UInt8) (us:List Tm):Tm×Int:=
 if Yw n then(QL n us,0)else if n=XOR then WQ us else if n=MUL∨n=INV∨n=ONE then YG (.mk 3 n 0 us)
 else if n=EXP then Xl (us.getD 0 Qw) (us.getD 1 Qw)else(.mk 3 n 0 us,0)
mutual
def Zk:Tm→Tm×Int
 | .mk k n s ks=>if k=3 then(if(normL ks).2=0 then Yb n (normL ks).1 else(Qw,(normL ks).2))else(.mk k n s ks,0)
def normL:List Tm→List Tm×Int
 | []=>([],0)
 | t:: ts=>if(Zk t).2=0 then(if(normL ts).2=0 then((Zk t).1:: (normL ts).1,0)else([],(normL ts).2))else([],(Zk t).2)
end
theorem QfS {n:List UInt8} {us:List Tm} (ha:Q8 n us.length=true) (h:goodL us=true):Q1 (Yb n us).1=true∧(Yb n us).1.mass≤1+n.length+us.length+massL us+13200:=by
 unfold Yb;split
 ·obtain⟨h1,h2⟩:=Qfu ha h;exact⟨h1,by simp;omega⟩
 ·split
  ·exact⟨QdK h,by have:=QdZ us;omega⟩
  ·split
   ·exact⟨HV (Up ha h),by have:=HX (.mk 3 n 0 us);omega⟩
   ·split
    ·rename_i hn;subst hn;have h2:us.length=2:=by simpa[Q8]using ha
     match us,h2,h with
     | [x,y],_,h=>
      simp only[goodL,Bool.and_eq_true]at h;obtain⟨h3,h4⟩:=Qkh h.1 h.2.1;exact⟨h3,by simp only[massL,EXP,List.length_cons,List.length_nil]at *;simp at h4 ⊢;omega⟩
    ·exact⟨Up ha h,by simp[Tm.mass]⟩
mutual
theorem Rk: ∀t:Tm,Q1 t=true→Q1 (Zk t).1=true∧(Zk t).1.mass≤t.mass+13200*t.nodes
 | .mk k n s ks,h=>by
  have hk:=normL_ok ks (Xh h);simp only[Zk];split
  ·rename_i hk3;subst hk3;split
   ·rename_i h2;obtain⟨h3,h4,h5⟩:=hk;have h5:=h5 h2;have har:=(XN h rfl).2;simp only[Q5,QN]at har;obtain⟨h6,h7⟩:=QfS (by rw[h5];exact har) h3;exact⟨h6,by simp only[Tm.mass,Tm.nodes];rw[h5]at h7;omega⟩
   ·exact⟨XO,by show Qw.mass≤_;rw[W4];simp only[Tm.mass];omega⟩
  ·exact⟨h,Nat.le_add_right _ _⟩
theorem normL_ok: ∀ts:List Tm,goodL ts=true→goodL (normL ts).1=true∧massL (normL ts).1≤massL ts+13200*nodesL ts∧((normL ts).2=0→(normL ts).1.length=ts.length)
 | [],_=>by simp[normL,goodL,massL]
 | t:: ts,h=>by
  simp only[goodL,Bool.and_eq_true]at h;obtain⟨a1,a2⟩:=Rk t h.1;obtain⟨b1,b2,b3⟩:=normL_ok ts h.2;simp only[normL];split
  ·split
   ·rename_i h2;refine⟨by simp[goodL,a1,b1],by simp only[massL,nodesL];omega,fun _=>by simp[b3 h2]⟩
   ·rename_i h2;exact⟨rfl,by simp[massL],fun e=>absurd e h2⟩
  ·rename_i h2;exact⟨rfl,by simp[massL],fun e=>absurd e h2⟩
end
theorem UU {x:Tm}: ∀{ks:List Tm},x∈ks→x.nodes≤nodesL ks
 | [],h=>by cases h
 | t:: ts,h=>by
  simp only[nodesL];rcases List.mem_cons.1 h with rfl | h
  ·omega
  ·have:=UU h;omega
theorem RC {n:List UInt8} (h:Yw n=true): (n=FST∨n=SND∨n=READ)∨(n=DEC∨n=Q6∨n=QV):=by
 simp only[Yw,Bool.or_eq_true,beq_iff_eq]at h;rcases h with((((h | h) | h) | h) | h) | h <;> simp[h]
theorem Qh7 {n:List UInt8} {us:List Tm} (bs:List (List AV)) (hn:Yw n=true) (ha:Q8 n us.length=true) (hg:goodL us=true) (hm:massL us < 20000000):call F.tb 176 [.agg (Qa (.mk 3 n 0 us))] bs=some (.agg (Qa (QL n us)),bs):=by
 rcases RC hn with h | h
 ·have h1:us.length=1:=by rcases h with rfl | rfl | rfl <;> simpa[Q8,PK,Ze,ENC,Zb,Q2,EXP,DEC,Q6,QV,FST,SND,READ]using ha
  obtain⟨a,rfl⟩:=List.length_eq_one_iff.1 h1;simp only[goodL,Bool.and_eq_true]at hg;simp only[massL]at hm;exact Qfv n a bs h hg.1 (by unfold big;omega)
 ·have h1:us.length=2:=by rcases h with rfl | rfl | rfl <;> simpa[Q8]using ha
  match us,h1,hg,hm with
  | [a,b],_,hg,hm=>
   simp only[goodL,Bool.and_eq_true]at hg;simp only[massL]at hm;exact Qfw n a b bs h hg.1 hg.2.1 (by unfold big;omega) (by unfold big;omega)
theorem Qiw {n:List UInt8} {us:List Tm} (bs:List (List AV)) (hn:Yw n=true) (ha:Q8 n us.length=true) (hg:goodL us=true) (hm:massL us < 20000000):QeV (QL n us) bs (call F.tb 243 [.agg (Qa (.mk 3 n 0 us))] bs):=by
 rcases RC hn with h | h
 ·have h1:us.length=1:=by rcases h with rfl | rfl | rfl <;> simpa[Q8,PK,Ze,ENC,Zb,Q2,EXP,DEC,Q6,QV,FST,SND,READ]using ha
  obtain⟨a,rfl⟩:=List.length_eq_one_iff.1 h1;simp only[goodL,Bool.and_eq_true]at hg;simp only[massL]at hm;exact Qbc n a bs h hg.1 (by unfold big;omega)
 ·have h1:us.length=2:=by rcases h with rfl | rfl | rfl <;> simpa[Q8]using ha
  match us,h1,hg,hm with
  | [a,b],_,hg,hm=>
   simp only[goodL,Bool.and_eq_true]at hg;simp only[massL]at hm;exact Qbd n a b bs h hg.1 (by unfold big;omega) (by unfold big;omega)
def MX (us:List Tm) (n:List UInt8):Prop:=massL us+n.length+us.length < 15000000
set_option maxHeartbeats 2000000 in
theorem Qj7 (t:Tm) (us:List Tm) (bs:List (List AV)) (ha:Q8 t.name us.length=true) (hg:goodL us=true) (hm:MX us t.name) (ρ:Nat→AV) (h1:ρ 1= .bx (Qa t)) (h2:ρ 2= .bx [.int .i64 0,.str [],.int .i64 0,.sl true 4 []])
  (h4:ρ 4= .bx [.int .i64 3,.str t.name,.int .i64 0,.sl true 4 (encTs us)]):R F.tb F.f175r0 ρ bs (Qt F.f175 bs)=some (QS (Yb t.name us),bs):=by
 unfold MX at hm;have hf:=WC 3 t.name 0 us;have hgp:gpfreeE (encTs us)=true:=encTs_gp us;obtain⟨n,hn⟩: ∃n,t.name=n:=⟨_,rfl⟩;rw[hn]at ha hm h4 hf ⊢;cases hd:Yw n
 ·have hd':=hd;simp only[Yw,Bool.or_eq_false_iff]at hd';obtain⟨⟨⟨⟨⟨d1,d2⟩,d3⟩,d4⟩,d5⟩,d6⟩:=hd';simp only[FST,SND,DEC,Q6,QV,READ]at d1 d2 d3 d4 d5 d6;by_cases hx:n=XOR
  ·subst hx;have e:Yb XOR us=WQ us:=by simp[Yb,hd]
   have hc:=Qff us false bs (by omega) (by omega);rw[e];simp only[QS]at hc ⊢;simp only[XOR]at *;simp[F.f175r0,h1,h2,h4,hn,hc]
  ·by_cases hp:n=MUL∨n=INV∨n=ONE
   ·have e:Yb n us=YG (.mk 3 n 0 us):=by simp only[Yb,hd,hx,hp,if_true,if_false];simp
    have hmass: (Tm.mk 3 n 0 us).mass < 20000000:=by simp only[Tm.mass];omega
    have hc:=Ig (.mk 3 n 0 us) bs (by omega);have hc2:=L6 false bs (O3 (.mk 3 n 0 us) 25000000 (by omega)) (SX _);rw[← hf]at hc;rw[e];by_cases c:ofE (.mk 3 n 0 us)=0
    ·have e2:YG (.mk 3 n 0 us)=ZQ (ofP (.mk 3 n 0 us)):=by simp[YG,c]
     rw[e2];simp only[QS]at hc2 ⊢;rw[c]at hc;generalize ofP (.mk 3 n 0 us)=P at *;rcases hp with rfl | rfl | rfl
     ·simp only[MUL]at *;simp[F.f175r0,h1,h2,h4,hn,hc,hc2]
     ·simp only[INV]at *;simp[F.f175r0,h1,h2,h4,hn,hc,hc2]
     ·simp only[ONE]at *;simp[F.f175r0,h1,h2,h4,hn,hc,hc2]
    ·have e2:YG (.mk 3 n 0 us)=(Qw,ofE (.mk 3 n 0 us)):=by simp[YG,c]
     rw[e2];generalize ofE (.mk 3 n 0 us)=E at *;generalize ofP (.mk 3 n 0 us)=P at *;rcases hp with rfl | rfl | rfl
     ·simp only[MUL]at *;simp[F.f175r0,h1,h2,h4,hn,hc,c,QM,QE]
     ·simp only[INV]at *;simp[F.f175r0,h1,h2,h4,hn,hc,c,QM,QE]
     ·simp only[ONE]at *;simp[F.f175r0,h1,h2,h4,hn,hc,c,QM,QE]
   ·by_cases he:n=EXP
    ·have e:Yb n us=Xl (us.getD 0 Qw) (us.getD 1 Qw):=by subst he;simp only[Yb,hd,if_neg hx,if_neg hp];simp
     subst he;have hl:us.length=2:=by simpa[Q8]using ha
     match us,hl,hg,hm,h4,e with
     | [x,y],_,hg,hm,h4,e=>
      simp only[goodL,Bool.and_eq_true]at hg;simp only[massL]at hm;have hc:=Qic x y bs hg.1 (by omega) (by omega);rw[e];simp only[QS]at hc ⊢;simp only[List.getD_cons_zero,List.getD_cons_succ]at *;simp only[EXP]at *;simp[F.f175r0,h1,h2,h4,hn,hc]
    ·have e:Yb n us=(.mk 3 n 0 us,0):=by simp only[Yb,hd,hx,hp,he,if_false];simp
     rw[e];have b1: (n == XOR)=false:=by simpa using hx
     have b2: (n == MUL)=false:=by simp at hp ⊢;exact hp.1
     have b3: (n == INV)=false:=by simp at hp ⊢;exact hp.2.1
     have b4: (n == ONE)=false:=by simp at hp ⊢;exact hp.2.2
     have b5: (n == EXP)=false:=by simpa using he
     simp only[XOR,MUL,INV,ONE,EXP]at b1 b2 b3 b4 b5;simp[F.f175r0,h1,h2,h4,hn,d1,d2,d3,d4,d5,d6,b1,b2,b3,b4,b5,QM,Qg]
 ·have e:Yb n us=(QL n us,0):=by simp[Yb,hd]
  have hc:=Qh7 bs hd ha hg (by omega);rw[← hf]at hc;rw[e];generalize QL n us=D at *;rcases RC hd with(rfl | rfl | rfl) | (rfl | rfl | rfl)
  ·simp only[FST]at *;simp[F.f175r0,h1,h2,h4,hn,hc,QM]
  ·simp only[SND]at *;simp[F.f175r0,h1,h2,h4,hn,hc,QM]
  ·simp only[READ]at *;simp[F.f175r0,h1,h2,h4,hn,hc,QM]
  ·simp only[DEC]at *;simp[F.f175r0,h1,h2,h4,hn,hc,QM]
  ·simp only[Q6]at *;simp[F.f175r0,h1,h2,h4,hn,hc,QM]
  ·simp only[QV]at *;simp[F.f175r0,h1,h2,h4,hn,hc,QM]
def XS (n:List UInt8) (us:List Tm) (r:List Tm×Int):Tm×Int:=if r.2=0 then Yb n (us ++ r.1)else(Qw,r.2)
theorem Qd2 (t:Tm) (bs:List (List AV)) (hg:Q1 t=true) (hk3:t.kind=3) (hm:t.mass+13200*t.nodes < 15000000) (ih: ∀x∈t.kids,∀bs,call F.tb 175 [.agg (Qa x)] bs=some (QS (Zk x),bs)):
  ∀(post pre us:List Tm) (ρ:Nat→AV),t.kids=pre ++ post→us.length=pre.length→goodL us=true→massL us≤massL pre+13200*nodesL pre→ρ 1= .bx (Qa t)→ρ 2= .bx [.int .i64 0,.str [],.int .i64 0,.sl true 4 []]→
   ρ 4= .bx [.int .i64 3,.str t.name,.int .i64 0,.sl true 4 (encTs us)]→ρ 19= .sl false 4 (encTs t.kids)→ρ 20= .int .i64 t.kids.length→ρ 21= .int .i64 pre.length→
  R F.tb (.loop F.f175l0) ρ bs (Ql 0 (Qr F.tb F.f175r0 (Qt F.f175 bs)))=some (QS (XS t.name us (normL post)),bs):=by
 have hme:=Qo t;have hne:=Z0 t;intro post
 induction post with
 | nil=>
  intro pre us ρ hk hl hgu hmu h1 h2 h4 h19 h20 h21;simp only[List.append_nil]at hk;rw[← hk]at h21 hl hmu;have har:=(XN hg hk3).2;have hr:=Qj7 t us bs (by rw[hl];exact har) hgu (by unfold MX;omega);have e:XS t.name us (normL [])=Yb t.name us:=by simp[XS,normL]
  rw[Qc F.f175l0.eq_1,e];simp[h1,h2,h4,h19,h20,h21];apply hr <;> simp[h1,h2,h4]
 | cons x post IH=>
  intro pre us ρ hk hl hgu hmu h1 h2 h4 h19 h20 h21;have hg2:=Qp hk;have hll:=Qx hk;have hw1:=wr1 pre.length (by omega);have hlt:=Qy hk;have hxk:x∈t.kids:=by rw[hk];simp
  have hc:=ih x hxk bs;obtain⟨n1,n2⟩:=Rk x (Y5.1 (Xh hg) x hxk);simp only[QS]at hc;rw[Qc F.f175l0.eq_1];by_cases c: (Zk x).2=0
  ·have e:XS t.name us (normL (x:: post))=XS t.name (us ++ [(Zk x).1]) (normL post):=by
    simp only[XS,normL,c,if_true];by_cases c2: (normL post).2=0
    ·simp[c2]
    ·simp[c2]
   have hb: (us.length+1)*56≤140737488355328:=Yi (by omega);have hi:=fun ρ=>IH (pre ++ [x]) (us ++ [(Zk x).1]) ρ (by rw[hk];simp) (by simp[hl]) (Y5.2 fun y hy=>by
    rcases List.mem_append.1 hy with hy | hy
    ·exact Y5.1 hgu y hy
    ·simp at hy;subst hy;exact n1) (by rw[YT,YT,Yr];simp only[massL,nodesL];omega)
   rw[e];simp[h1,h2,h4,h19,h20,h21,hg2,hlt,hw1,hc,c,hb,Q7,QP];apply hi <;> simp[h1,h2,h19,h20]
  ·have e:XS t.name us (normL (x:: post))=(Qw,(Zk x).2):=by simp[XS,normL,c]
   rw[e];simp[h1,h2,h4,h19,h20,h21,hg2,hlt,hc,c,QM,QE]
theorem Qh6: ∀(t:Tm) (bs:List (List AV)),Q1 t=true→t.mass+13200*t.nodes < 15000000→call F.tb 175 [.agg (Qa t)] bs=some (QS (Zk t),bs):=by
 refine Zp ?_;intro k n s ks ih bs hg hm;have hme:=Qo (.mk k n s ks);have hne:=Z0 (.mk k n s ks);simp only[QN,Q5]at hme hne;rw[Qb F.tb_175 _ _ rfl];by_cases hk:k=3
 ·subst hk;have hl:=fun ρ=>Qd2 (.mk 3 n s ks) bs hg rfl hm (fun x hx bs=>ih x hx bs (Y5.1 (Xh hg) x hx) (by have h1:x.mass≤massL ks:=QD hx;have h2:x.nodes≤nodesL ks:=UU hx;omega)) ks [] [] ρ rfl rfl rfl (by simp[massL]);have e:Zk (.mk 3 n s ks)=XS n [] (normL ks):=by simp[Zk,XS]
  rw[e];simp only[Q5,QN]at hl;simp[F.f175C];apply hl <;> simp[encTs]
 ·have e:Zk (.mk k n s ks)=(.mk k n s ks,0):=by simp[Zk,hk]
  rw[e];simp[F.f175C,hk,QM]
theorem R2 {n:List UInt8}: ∀{l:List Sy} {y:Sy},Zs n l=some y→y∈l∧y.n=n
 | [],y,h=>by simp[Zs]at h
 | s:: ss,y,h=>by
  simp only[Zs]at h;split at h
  ·rename_i hs;injection h with h;subst h;exact⟨by simp,hs⟩
  ·obtain⟨h1,h2⟩:=R2 h;exact⟨by simp[h1],h2⟩
theorem QgG:YA.all (fun y=> !(y.k == 3) || Yw y.n)=true:=by decide
def WT (n:List UInt8):Int:=match Zs n YA with | some y=>y.k | none=>0
theorem LC (n:List UInt8):decide (WT n=3)=Yw n:=by
 unfold WT;cases hd:Yw n
 ·cases hf:Zs n YA with
  | none=>simp
  | some y=>
   obtain⟨h1,h2⟩:=R2 hf;have h3:=List.all_eq_true.1 QgG y h1;rw[h2,hd]at h3;simpa using h3
 ·rcases RC hd with(rfl | rfl | rfl) | (rfl | rfl | rfl) <;> simp[FST,SND,DEC,Q6,QV,READ,Zs,YA]
theorem SS (n:List UInt8) (bs:List (List AV)):call F.tb 128 [.str n] bs=some (.int .i64 (WT n),bs):=I2 n bs
set_option maxHeartbeats 4000000 in
theorem Qe2 (t:Tm) (us:List Tm) (bs:List (List AV)) (ha:Q8 t.name us.length=true) (hg:goodL us=true) (hm:MX us t.name) (ρ:Nat→AV) (h1:ρ 1= .bx (Qa t)) (h2:ρ 2= .bx [.int .i64 0,.str [],.int .i64 0,.sl true 4 []])
  (h4:ρ 4= .sl true 4 (encTs us)):R F.tb F.f242r0 ρ bs (Qt F.f242 bs)=some (QS (Yb t.name us),bs):=by
 unfold MX at hm;obtain⟨n,hn⟩: ∃n,t.name=n:=⟨_,rfl⟩;rw[hn]at ha hm ⊢;have hap:=Y4 n us false bs (by omega);have hkn:=SS n bs;have hk3:=LC n;cases hd:Yw n
 ·rw[hd]at hk3;have hk3': ¬WT n=3:=by simpa using hk3
  generalize WT n=KK at *;by_cases hx:n=XOR
  ·subst hx;have e:Yb XOR us=WQ us:=by simp[Yb,hd]
   have hc:=AU us false bs (by omega) (by omega);rw[e];simp only[QS]at hc ⊢;simp only[XOR]at *;simp[F.f242r0,h1,h2,h4,hn,hap,hkn,hk3',hc]
  ·have b1: (n == XOR)=false:=by simpa using hx
   simp only[XOR]at b1;by_cases hp:n=MUL∨n=INV∨n=ONE
   ·have e:Yb n us=YG (.mk 3 n 0 us):=by simp only[Yb,hd,hx,hp,if_true,if_false];simp
    have hmass: (Tm.mk 3 n 0 us).mass < 20000000:=by simp only[Tm.mass];omega
    have hc:=Qix (.mk 3 n 0 us) bs (by omega);rw[e];simp only[QS]at hc ⊢;generalize YG (.mk 3 n 0 us)=P at *;rcases hp with rfl | rfl | rfl
    ·simp only[MUL]at *;simp[F.f242r0,h1,h2,h4,hn,hap,hkn,hk3',hc]
    ·simp only[INV]at *;simp[F.f242r0,h1,h2,h4,hn,hap,hkn,hk3',hc]
    ·simp only[ONE]at *;simp[F.f242r0,h1,h2,h4,hn,hap,hkn,hk3',hc]
   ·by_cases he:n=EXP
    ·have e:Yb n us=Xl (us.getD 0 Qw) (us.getD 1 Qw):=by subst he;simp only[Yb,hd,if_neg hx,if_neg hp];simp
     subst he;have hl:us.length=2:=by simpa[Q8]using ha
     match us,hl,hg,hm,h4,e,hap with
     | [x,y],_,hg,hm,h4,e,hap=>
      simp only[goodL,Bool.and_eq_true]at hg;simp only[massL]at hm;have hc:=QiB x y bs hg.1 (by omega) (by omega);rw[e];simp only[QS]at hc ⊢;simp only[List.getD_cons_zero,List.getD_cons_succ]at *;simp only[EXP]at *;simp[F.f242r0,h1,h2,h4,hn,hap,hkn,hk3',hc]
    ·have e:Yb n us=(.mk 3 n 0 us,0):=by simp only[Yb,hd,hx,hp,he,if_false];simp
     rw[e];have b2: (n == MUL)=false:=by simp at hp ⊢;exact hp.1
     have b3: (n == INV)=false:=by simp at hp ⊢;exact hp.2.1
     have b4: (n == ONE)=false:=by simp at hp ⊢;exact hp.2.2
     have b5: (n == EXP)=false:=by simpa using he
     simp only[MUL,INV,ONE,EXP]at b2 b3 b4 b5;simp[F.f242r0,h1,h2,h4,hn,hap,hkn,hk3',b1,b2,b3,b4,b5,QM]
 ·rw[hd]at hk3;have hk3':WT n=3:=by simpa using hk3
  rw[hk3']at hkn;have e:Yb n us=(QL n us,0):=by simp[Yb,hd]
  obtain⟨b,hc⟩:=Qiw bs hd ha hg (by omega);rw[e];generalize QL n us=D at *;simp[F.f242r0,h1,h2,h4,hn,hap,hkn,hc,QM]
theorem Aw (t:Tm) (bs:List (List AV)) (hg:Q1 t=true) (hk3:t.kind=3) (hm:t.mass+13200*t.nodes < 15000000) (ih: ∀x∈t.kids,∀bs,call F.tb 242 [.agg (Qa x)] bs=some (QS (Zk x),bs)):
  ∀(post pre us:List Tm) (ρ:Nat→AV),t.kids=pre ++ post→us.length=pre.length→goodL us=true→massL us≤massL pre+13200*nodesL pre→ρ 1= .bx (Qa t)→ρ 2= .bx [.int .i64 0,.str [],.int .i64 0,.sl true 4 []]→
   ρ 4= .sl true 4 (encTs us)→ρ 5= .int .i64 pre.length→
  R F.tb (.loop F.f242l0) ρ bs (Ql 0 (Qr F.tb F.f242r0 (Qt F.f242 bs)))=some (QS (XS t.name us (normL post)),bs):=by
 have hme:=Qo t;have hne:=Z0 t;intro post
 induction post with
 | nil=>
  intro pre us ρ hk hl hgu hmu h1 h2 h4 h5;simp only[List.append_nil]at hk;rw[← hk]at h5 hl hmu;have har:=(XN hg hk3).2;have hr:=Qe2 t us bs (by rw[hl];exact har) hgu (by unfold MX;omega);have e:XS t.name us (normL [])=Yb t.name us:=by simp[XS,normL]
  rw[Qc F.f242l0.eq_1,e];simp[h1,h2,h4,h5];apply hr <;> simp[h1,h2,h4]
 | cons x post IH=>
  intro pre us ρ hk hl hgu hmu h1 h2 h4 h5;have hg2:=Qp hk;have hll:=Qx hk;have hw1:=wr1 pre.length (by omega);have hlt:=Qy hk;have hxk:x∈t.kids:=by rw[hk];simp
  have hc:=ih x hxk bs;obtain⟨n1,n2⟩:=Rk x (Y5.1 (Xh hg) x hxk);simp only[QS]at hc;rw[Qc F.f242l0.eq_1];by_cases c: (Zk x).2=0
  ·have e:XS t.name us (normL (x:: post))=XS t.name (us ++ [(Zk x).1]) (normL post):=by
    simp only[XS,normL,c,if_true];by_cases c2: (normL post).2=0
    ·simp[c2]
    ·simp[c2]
   have hb: (us.length+1)*56≤140737488355328:=Yi (by omega);have hi:=fun ρ=>IH (pre ++ [x]) (us ++ [(Zk x).1]) ρ (by rw[hk];simp) (by simp[hl]) (Y5.2 fun y hy=>by
    rcases List.mem_append.1 hy with hy | hy
    ·exact Y5.1 hgu y hy
    ·simp at hy;subst hy;exact n1) (by rw[YT,YT,Yr];simp only[massL,nodesL];omega)
   rw[e];simp[h1,h2,h4,h5,hg2,hlt,hw1,hc,c,hb,Q7,QP];apply hi <;> simp[h1,h2]
  ·have e:XS t.name us (normL (x:: post))=(Qw,(Zk x).2):=by simp[XS,normL,c]
   rw[e];simp[h1,h2,h4,h5,hg2,hlt,hc,c,QM,QE]
theorem Qiv: ∀(t:Tm) (bs:List (List AV)),Q1 t=true→t.mass+13200*t.nodes < 15000000→call F.tb 242 [.agg (Qa t)] bs=some (QS (Zk t),bs):=by
 refine Zp ?_;intro k n s ks ih bs hg hm;have hme:=Qo (.mk k n s ks);have hne:=Z0 (.mk k n s ks);simp only[QN,Q5]at hme hne;rw[Qb F.tb_242 _ _ rfl];by_cases hk:k=3
 ·subst hk;have hl:=fun ρ=>Aw (.mk 3 n s ks) bs hg rfl hm (fun x hx bs=>ih x hx bs (Y5.1 (Xh hg) x hx) (by have h1:x.mass≤massL ks:=QD hx;have h2:x.nodes≤nodesL ks:=UU hx;omega)) ks [] [] ρ rfl rfl rfl (by simp[massL]);have e:Zk (.mk 3 n s ks)=XS n [] (normL ks):=by simp[Zk,XS]
  rw[e];simp only[Q5,QN]at hl;simp[F.f242C];apply hl <;> simp[encTs]
 ·have e:Zk (.mk k n s ks)=(.mk k n s ks,0):=by simp[Zk,hk]
  rw[e];simp[F.f242C,hk,QM]
def Zg (t:Tm):Tm×Int:=if thV t≠0 then(Qw,thV t)else if(Zk t).2≠0 then(Qw,(Zk t).2)else if QF (Zk t).1≠0 then(Qw,QF (Zk t).1)else((Zk t).1,0)
theorem Zj {t:Tm} (h:thV t=0):QF t=0∧Z8 t=0∧Q1 t=true∧t.mass≤13200∧t.nodes≤400:=by
 unfold thV at h;split at h
 ·rename_i h1;exact absurd h h1
 ·rename_i h1;have h2:QF t=0:=by simpa using h1
  obtain⟨a,b,c⟩:=YX h2;exact⟨h2,h,Ja t a h,c,b⟩
theorem UV (t:Tm): (Zg t).1.mass≤13200:=by
 unfold Zg;split
 ·show Qw.mass≤_;rw[W4];omega
 ·split
  ·show Qw.mass≤_;rw[W4];omega
  ·split
   ·show Qw.mass≤_;rw[W4];omega
   ·rename_i h;exact(YX (by simpa using h)).2.2
theorem C5 (t:Tm) (bs:List (List AV)) (hm:t.mass < big):call F.tb 174 [.agg (Qa t)] bs=some (QS (Zg t),bs):=by
 have h1:=VD t bs hm;rw[Qb F.tb_174 _ _ rfl];by_cases c1:thV t=0
 ·obtain⟨_,_,hg,hma,hno⟩:=Zj c1;have h2:=Qh6 t bs hg (by omega);obtain⟨n1,n2⟩:=Rk t hg;have h3:=XW (Zk t).1 bs (by unfold big;omega);simp only[QS]at h2;by_cases c2: (Zk t).2=0
  ·by_cases c3:QF (Zk t).1=0
   ·have e:Zg t=((Zk t).1,0):=by simp[Zg,c1,c2,c3]
    rw[e];simp[F.f174C,h1,h2,h3,c1,c2,c3,QM]
   ·have e:Zg t=(Qw,QF (Zk t).1):=by simp[Zg,c1,c2,c3]
    rw[e];simp[F.f174C,h1,h2,h3,c1,c2,c3,QM,QE]
  ·have e:Zg t=(Qw,(Zk t).2):=by simp[Zg,c1,c2]
   rw[e];simp[F.f174C,h1,h2,c1,c2,QM,QE]
 ·have e:Zg t=(Qw,thV t):=by simp[Zg,c1]
  rw[e];simp[F.f174C,h1,c1,QM,QE]
theorem Be (t:Tm) (bs:List (List AV)) (hm:t.mass < big):call F.tb 241 [.agg (Qa t)] bs=some (QS (Zg t),bs):=by
 have h1:=VC t bs hm;rw[Qb F.tb_241 _ _ rfl];by_cases c1:thV t=0
 ·obtain⟨_,_,hg,hma,hno⟩:=Zj c1;have h2:=Qiv t bs hg (by omega);obtain⟨n1,n2⟩:=Rk t hg;have h3:=YQ (Zk t).1 bs (by unfold big;omega);simp only[QS]at h2;by_cases c2: (Zk t).2=0
  ·by_cases c3:QF (Zk t).1=0
   ·have e:Zg t=((Zk t).1,0):=by simp[Zg,c1,c2,c3]
    rw[e];simp[F.f241C,h1,h2,h3,c1,c2,c3,QM]
   ·have e:Zg t=(Qw,QF (Zk t).1):=by simp[Zg,c1,c2,c3]
    rw[e];simp[F.f241C,h1,h2,h3,c1,c2,c3,QM,QE]
  ·have e:Zg t=(Qw,(Zk t).2):=by simp[Zg,c1,c2]
   rw[e];simp[F.f241C,h1,h2,c1,c2,QM,QE]
 ·have e:Zg t=(Qw,thV t):=by simp[Zg,c1]
  rw[e];simp[F.f241C,h1,c1,QM,QE]
theorem Qii (n:List UInt8) (bs:List (List AV)):call F.tb 206 [.str n] bs=some (.bool (!Yw n),bs):=by
 have h:=Y8 n bs;have hk:=LC n;rw[Qb F.tb_206 _ _ rfl,← hk];unfold WT;cases hf:Zs n YA with
 | none=>
  rw[hf]at h;simp[F.f206C,h]
 | some y=>
  rw[hf]at h;simp[F.f206C,h,Wf]
def ndN (t:Tm):Bool:= !(decide (t.kind=3) && Yw t.name)
mutual
def evT:Tm→Bool
 | .mk k n s ks=>ndN (.mk k n s ks) && evL ks
def evL:List Tm→Bool
 | []=>true
 | t:: ts=>evT t && evL ts
end
theorem Qdp (t:Tm):evT t=(ndN t && evL t.kids):=by cases t;simp[evT]
mutual
theorem Lv: ∀t:Tm,evT t=(QY t).all ndN
 | .mk k n s ks=>by simp only[evT,QY,List.all_cons,evL_all ks]
theorem evL_all: ∀ts:List Tm,evL ts=(allL ts).all ndN
 | []=>rfl
 | t:: ts=>by simp only[evL,allL,List.all_append,Lv t,evL_all ts]
end
theorem Qag (t:Tm) (bs:List (List AV)) (hm:t.mass < big) (ih: ∀x∈t.kids,∀bs,call F.tb 207 [.agg (Qa x),.fn 206 []] bs=some (.bool (evT x),bs)):
  ∀(post pre:List Tm) (ρ:Nat→AV),t.kids=pre ++ post→ρ 1= .fn 206 []→ρ 18= .sl false 4 (encTs t.kids)→ρ 19= .int .i64 t.kids.length→ρ 20= .int .i64 pre.length→
  R F.tb (.loop F.f207l0) ρ bs (Ql 0 (Qr F.tb F.f207r0 (Qt F.f207 bs)))=some (.bool (evL post),bs):=by
 have hm2:=Qo t;unfold big at hm;intro post
 induction post with
 | nil=>
  intro pre ρ hk h1 h18 h19 h20;simp only[List.append_nil]at hk;rw[← hk]at h20;rw[Qc F.f207l0.eq_1];simp[h1,h18,h19,h20,F.f207r0,evL]
 | cons x post IH=>
  intro pre ρ hk h1 h18 h19 h20;have hg:=Qp hk;have hll:=Qx hk;have hw1:=wr1 pre.length (by omega);have hlt:=Qy hk;have hc:=ih x (by rw[hk];simp) bs;rw[Qc F.f207l0.eq_1];cases hb:evT x
  ·simp[h1,h18,h19,h20,hg,hlt,hc,hb,evL]
  ·have h2:=fun ρ=>IH (pre ++ [x]) ρ (by rw[hk];simp);simp[h1,h18,h19,h20,hg,hlt,hw1,hc,hb,evL];apply h2 <;> simp[h1,h18,h19]
theorem Qij: ∀(t:Tm) (bs:List (List AV)),t.mass < big→call F.tb 207 [.agg (Qa t),.fn 206 []] bs=some (.bool (evT t),bs):=by
 refine Zp ?_;intro k n s ks ih bs hm;have hl:=fun ρ=>Qag (.mk k n s ks) bs hm (fun x hx bs=>ih x hx bs (by have h1:x.mass≤massL ks:=QD hx;have:=Qo (.mk k n s ks);simp only[QN]at this;omega)) ks [] ρ rfl;have h2:=Qii n bs;simp only[QN]at hl;rw[Qb F.tb_207 _ _ rfl,Qdp];by_cases hk:k=3
 ·cases hd:Yw n
  ·have e:ndN (.mk k n s ks)=true:=by simp[ndN,hd]
   rw[e];simp[F.f207C,hk,hd,h2];apply hl <;> simp
  ·have e:ndN (.mk k n s ks)=false:=by simp[ndN,hd,hk]
   rw[e];simp[F.f207C,hk,hd,h2]
 ·have e:ndN (.mk k n s ks)=true:=by simp[ndN,hk]
  rw[e];simp[F.f207C,hk];apply hl <;> simp
def UY (t:Tm):Bool:=decide ((Zg t).2=0) && decide (Qm (Zg t).1 t=0) && evT t
theorem Qh5 (t:Tm) (bs:List (List AV)) (hm:t.mass < big):call F.tb 173 [.agg (Qa t)] bs=some (.bool (UY t),bs):=by
 have h1:=C5 t bs hm;have hnm:=UV t;have h2:=Lk (Zg t).1 t bs (by unfold big;omega) hm;have h3:=Qij t bs hm;simp only[QS]at h1;rw[Qb F.tb_173 _ _ rfl];by_cases c1: (Zg t).2=0
 ·by_cases c2:Qm (Zg t).1 t=0
  ·simp[F.f173C,h1,h2,h3,c1,c2,UY]
  ·simp[F.f173C,h1,h2,h3,c1,c2,UY]
 ·simp[F.f173C,h1,c1,UY]
theorem DG (l:List Tm) (bs:List (List AV)) (hl:l.length < 100000000): ∀(post pre:List Tm) (o:Bool) (ρ:Nat→AV),l=pre ++ post→ρ 5= .sl o 4 (encTs l)→ρ 6= .int .i64 pre.length→
  R F.tb (.loop F.f240l0) ρ bs (Ql 0 (Qr F.tb F.f240r0 (Qt F.f240 bs)))=some (.bool (post.all ndN),bs):=by
 intro post
 induction post with
 | nil=>
  intro pre o ρ hk h5 h6;simp only[List.append_nil]at hk;rw[← hk]at h6;rw[Qc F.f240l0.eq_1];simp[h5,h6,F.f240r0]
 | cons x post IH=>
  intro pre o ρ hk h5 h6;have hg:=Qp hk;have hll:=Qx hk;have hw1:=wr1 pre.length (by omega);have hlt:=Qy hk;have hc:=SS x.name bs;have hk3:=LC x.name;have h2:=fun ρ=>IH (pre ++ [x]) o ρ (by rw[hk];simp);rw[List.all_cons];rw[Qc F.f240l0.eq_1];by_cases ck:x.kind=3
  ·cases hd:Yw x.name
   ·rw[hd]at hk3;have hk3': ¬WT x.name=3:=by simpa using hk3
    have e:ndN x=true:=by simp[ndN,hd]
    rw[e,Bool.true_and];generalize WT x.name=KK at *;simp[h5,h6,hg,hlt,hw1,hc,ck,hk3',-List.all_eq_true];apply h2 <;> simp[h5]
   ·rw[hd]at hk3;have hk3':WT x.name=3:=by simpa using hk3
    have e:ndN x=false:=by simp[ndN,hd,ck]
    rw[e,Bool.false_and];simp[h5,h6,hg,hlt,hc,ck,hk3']
  ·have e:ndN x=true:=by simp[ndN,ck]
   rw[e,Bool.true_and];simp[h5,h6,hg,hlt,hw1,ck,-List.all_eq_true];apply h2 <;> simp[h5]
theorem Qiu (t:Tm) (bs:List (List AV)) (hm:t.mass < 1000000):call F.tb 240 [.agg (Qa t)] bs=some (.bool (UY t),bs):=by
 have hmb:t.mass < big:=by unfold big;omega
 have h1:=Be t bs hmb;have hnm:=UV t;have h2:=Xa t (Zg t).1 bs hmb (by unfold big;omega);have hsym:decide (Qm t (Zg t).1=0)=decide (Qm (Zg t).1 t=0):=by
  have:=XJ t (Zg t).1;rw[decide_eq_decide];omega
 rw[hsym]at h2;have h3:=U8 t bs (by omega);have hlen:=Wd t;have hnn:=Zm t;have h4:=fun o ρ=>DG (QY t) bs (by omega) (QY t) [] o ρ rfl;simp only[QS]at h1;rw[Qb F.tb_240 _ _ rfl];have e:UY t=(decide ((Zg t).2=0) && decide (Qm (Zg t).1 t=0) && (QY t).all ndN):=by rw[← Lv];rfl
 rw[e];by_cases c1: (Zg t).2=0
 ·by_cases c2:Qm (Zg t).1 t=0
  ·simp[F.f240C,h1,h2,h3,c1,c2,-List.all_eq_true];refine h4 false _ ?_ ?_ <;> simp
  ·simp[F.f240C,h1,h2,c1,c2]
 ·simp[F.f240C,h1,c1]
end Go.Am
