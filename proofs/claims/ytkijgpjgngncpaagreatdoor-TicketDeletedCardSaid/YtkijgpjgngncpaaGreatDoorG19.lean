/-
  Rc21, Rc22, Rc23, Rc24, Rc25, Rc26, Rc27, Rc28, Rc29, Rc30, Rc31, Rc32, Rc33, Rc34, Rc35, Rc36, Rc37, Rc38, Rc39, Rc40, Rc41, Rc42.
-/
import Derived.Test.YtkijgpjgngncpaaGreatDoorG18
set_option linter.all false
namespace Go.Am
set_option maxRecDepth 8000
@[simp] theorem Qgf (x y:Tm) (a:List Tm) (h:1 < (encTs (x:: y:: a)).length): (encTs (x:: y:: a))[1]=Qb y:=by simp[encTs]
def QK:List UInt8:=[112,97,105,114]
def ENC:List UInt8:=[101,110,99]
def Zz:List UInt8:=[97,101,110,99]
def PK:List UInt8:=[112,107]
def ZD:List UInt8:=[115,105,103,110]
def EXP:List UInt8:=[101,120,112]
def FST:List UInt8:=[102,115,116]
def SND:List UInt8:=[115,110,100]
def DEC:List UInt8:=[100,101,99]
def Yc:List UInt8:=[97,100,101,99]
def Yj:List UInt8:=[111,112,101,110]
def READ:List UInt8:=[114,101,97,100]
def Ye (n:List UInt8) (m:Nat):Bool:=
 if n=QK∨n=ENC∨n=Zz∨n=ZD∨n=EXP∨n=DEC∨n=Yc∨n=Yj then decide (m=2)
 else if n=PK∨n=FST∨n=SND∨n=READ then decide (m=1)else true
mutual
def QI:Tm→Bool
 | .mk k n s ks=>(!(k == 3) || ((s == 0) && Ye n ks.length)) && goodL ks
def goodL:List Tm→Bool
 | []=>true
 | t:: ts=>QI t && goodL ts
end
theorem Nc (t:Tm):QI t=((!(t.kind == 3) || ((t.sort == 0) && Ye t.name t.kids.length)) && goodL t.kids):=by cases t;simp[QI]
theorem XD: ∀{l:List Tm},goodL l=true↔∀x∈l,QI x=true
 | []=>by simp[goodL]
 | t:: ts=>by simp[goodL,XD (l:=ts)]
theorem Wv {t:Tm} (h:QI t=true):goodL t.kids=true:=by rw[Nc]at h;simp at h;exact h.2
theorem Ww {t:Tm} (h:QI t=true) (hk:t.kind=3):t.sort=0∧Ye t.name t.kids.length=true:=by
 rw[Nc]at h;simp[hk]at h;exact h.1
theorem VO {t:Tm} {n:List UInt8} (h:QI t=true) (hb:isB t n=true) (hn:Ye n t.kids.length=decide (t.kids.length=2)): ∃x y,t.kids=[x,y]:=by
 obtain⟨hk,rfl⟩:=XX.1 hb;have:=(Ww h hk).2;rw[hn]at this;simp at this
 match hh:t.kids with
 | [x,y]=>exact⟨x,y,rfl⟩
 | []=>rw[hh]at this;simp at this
 | [_]=>rw[hh]at this;simp at this
 | _:: _:: _:: _=>rw[hh]at this;simp at this
def kid (t:Tm) (i:Nat):Tm:=t.kids.getD i Qs
def pkT (t:Tm):Tm:= .mk 3 PK 0 [t]
theorem HU {u:Tm} (h:QI u=true) (key:Tm):decide (Qh u (pkT key)=0)=(isB u PK && decide (Qh (kid u 0) key=0)):=by
 cases hb:isB u PK
 ·have: ¬Qh u (pkT key)=0:=by
   intro e;have:=Ze _ _ e;subst this;simp[isB,pkT]at hb
  simp[this]
 ·obtain⟨hk,hn⟩:=XX.1 hb;obtain⟨hs,ha⟩:=Ww h hk;rw[hn]at ha;have h1:u.kids.length=1:=by simpa[Ye,PK,QK,ENC,Zz,ZD,EXP,DEC,Yc,Yj]using ha
  obtain⟨x,hx⟩:=List.length_eq_one_iff.1 h1;have hu:u=pkT x:=by rw[← Tm.eta u,hk,hn,hs,hx];rfl
  subst hu;have:kid (pkT x) 0=x:=rfl;rw[this];have e1:Qh (pkT x) (pkT key)=0↔Qh x key=0:=by
   constructor
   ·intro e;have:=Ze _ _ e;injection this with _ _ _ h4
    injection h4 with h4
    subst h4;exact Z3 _
   ·intro e;have:=Ze _ _ e;subst this;exact Z3 _
  simp[e1]
def ZE (n:List UInt8) (us:List Tm):Tm:=
 let a:=us.getD 0 Qs
 let key:=us.getD 1 Qs
 let out:Tm:= .mk 3 n 0 us
 if n=FST then(if isB a QK then kid a 0 else out)
 else if n=SND then(if isB a QK then kid a 1 else out)
 else if n=DEC then(if isB a ENC && decide (Qh (kid a 1) key=0)then kid a 0 else out)
 else if n=Yc then(if isB a Zz && decide (Qh (kid a 1) (pkT key)=0)then kid a 0 else out)
 else if n=Yj then(if isB a ZD && decide (Qh key (pkT (kid a 1))=0)then kid a 0 else out)
 else if n=READ then(if isB a ZD then kid a 0 else out)
 else out
theorem On (x y:Tm) (bs:List (List AV)) (hx:x.mass < big) (hy:y.mass < big):call F.tb 177 [.agg (Qb x),.agg (Qb y)] bs=some (.bool (decide (Qh x y=0)),bs):=by
 have h:=call_Compare x y bs hx hy;rw[Qa F.tb_177 _ _ rfl];simp[F.f177C,h]
def WY (n:List UInt8):Bool:=n == FST || n == SND || n == DEC || n == Yc || n == Yj || n == READ
theorem BI (n:List UInt8) (a:Tm) (bs:List (List AV)) (hn:n=FST∨n=SND∨n=READ) (hg:QI a=true) (hm:a.mass < big):
  call F.tb 176 [.agg (Qb (.mk 3 n 0 [a]))] bs=some (.agg (Qb (ZE n [a])),bs):=by
 have h1:=fun m=>V1 a m bs;rw[Qa F.tb_176 _ _ rfl];rcases hn with rfl | rfl | rfl
 ·cases hb:isB a QK
  ·have h2:=h1 QK;rw[hb]at h2;simp only[QK]at h2
   have e:ZE FST [a]= .mk 3 FST 0 [a]:=by simp[ZE,hb]
   rw[e];simp only[FST];simp[F.f176C,h2]
  ·have h2:=h1 QK;rw[hb]at h2;simp only[QK]at h2
   obtain⟨x,y,hk⟩:=VO hg hb (by simp[Ye]);have e:ZE FST [a]=x:=by simp[ZE,hb,kid,hk]
   rw[e];simp only[FST];simp[F.f176C,h2,hk]
 ·cases hb:isB a QK
  ·have h2:=h1 QK;rw[hb]at h2;simp only[QK]at h2
   have e:ZE SND [a]= .mk 3 SND 0 [a]:=by simp[ZE,hb,SND,FST]
   rw[e];simp only[SND];simp[F.f176C,h2]
  ·have h2:=h1 QK;rw[hb]at h2;simp only[QK]at h2
   obtain⟨x,y,hk⟩:=VO hg hb (by simp[Ye]);have e:ZE SND [a]=y:=by simp[ZE,hb,kid,hk,SND,FST]
   rw[e];simp only[SND];simp[F.f176C,h2,hk]
 ·cases hb:isB a ZD
  ·have h2:=h1 ZD;rw[hb]at h2;simp only[ZD]at h2
   have e:ZE READ [a]= .mk 3 READ 0 [a]:=by simp[ZE,hb,SND,FST,DEC,Yc,Yj,READ]
   rw[e];simp only[READ];simp[F.f176C,h2]
  ·have h2:=h1 ZD;rw[hb]at h2;simp only[ZD]at h2
   obtain⟨x,y,hk⟩:=VO hg hb (by simp[Ye]);have e:ZE READ [a]=x:=by simp[ZE,hb,kid,hk,SND,FST,DEC,Yc,Yj,READ]
   rw[e];simp only[READ];simp[F.f176C,h2,hk]
theorem BJ (n:List UInt8) (a key:Tm) (bs:List (List AV)) (hn:n=DEC∨n=Yc∨n=Yj) (hg:QI a=true) (hgk:QI key=true) (hm:a.mass < big - 10) (hmk:key.mass < big - 10):
  call F.tb 176 [.agg (Qb (.mk 3 n 0 [a,key]))] bs=some (.agg (Qb (ZE n [a,key])),bs):=by
 have h1:=fun t m=>V1 t m bs;rw[Qa F.tb_176 _ _ rfl];rcases hn with rfl | rfl | rfl
 ·cases hb:isB a ENC
  ·have h2:=h1 a ENC;rw[hb]at h2;simp only[ENC]at h2
   have e:ZE DEC [a,key]= .mk 3 DEC 0 [a,key]:=by simp[ZE,hb,SND,FST,DEC]
   rw[e];simp only[DEC];simp[F.f176C,h2]
  ·have h2:=h1 a ENC;rw[hb]at h2;simp only[ENC]at h2
   obtain⟨x,y,hk⟩:=VO hg hb (by simp[Ye]);have hma:=Qr a;rw[hk]at hma;simp only[massL]at hma;have h3:=On y key bs (by omega) (by omega);by_cases hc:Qh y key=0
   ·have e:ZE DEC [a,key]=x:=by simp[ZE,hb,kid,hk,hc,SND,FST,DEC]
    rw[e];simp only[DEC];simp[F.f176C,h2,h3,hc,hk]
   ·have e:ZE DEC [a,key]= .mk 3 DEC 0 [a,key]:=by simp[ZE,hb,kid,hk,hc,SND,FST,DEC]
    rw[e];simp only[DEC];simp[F.f176C,h2,h3,hc,hk]
 ·cases hb:isB a Zz
  ·have h2:=h1 a Zz;rw[hb]at h2;simp only[Zz]at h2
   have e:ZE Yc [a,key]= .mk 3 Yc 0 [a,key]:=by simp[ZE,hb,SND,FST,DEC,Yc]
   rw[e];simp only[Yc];simp[F.f176C,h2]
  ·have h2:=h1 a Zz;rw[hb]at h2;simp only[Zz]at h2
   obtain⟨x,y,hk⟩:=VO hg hb (by simp[Ye]);have hma:=Qr a;have hgy:QI y=true:=by
    have:=Wv hg;rw[hk]at this;simp[goodL]at this;exact this.2
   rw[hk]at hma;simp only[massL]at hma;have hpk:=HU hgy key;have h4:=h1 y PK;have e0:ZE Yc [a,key]=if isB y PK && decide (Qh (kid y 0) key=0)then x else .mk 3 Yc 0 [a,key]:=by
    rw[← hpk];simp[ZE,hb,kid,hk,SND,FST,DEC,Yc]
   rw[e0];cases hbp:isB y PK
   ·rw[hbp]at h4;simp only[PK]at h4
    simp only[Yc];simp[F.f176C,h2,h4,hk]
   ·rw[hbp]at h4;simp only[PK]at h4
    obtain⟨hyk,hyn⟩:=XX.1 hbp;have har:=(Ww hgy hyk).2;rw[hyn]at har;have hl1:y.kids.length=1:=by simpa[Ye,PK,QK,ENC,Zz,ZD,EXP,DEC,Yc,Yj]using har
    obtain⟨z,hz⟩:=List.length_eq_one_iff.1 hl1;have hmy:=Qr y;rw[hz]at hmy;simp only[massL]at hmy;have h3:=On z key bs (by omega) (by omega);have hk0:kid y 0=z:=by simp[kid,hz]
    rw[hk0];by_cases hc:Qh z key=0
    ·simp only[Yc];simp[F.f176C,h2,h3,h4,hc,hk,hz]
    ·simp only[Yc];simp[F.f176C,h2,h3,h4,hc,hk,hz]
 ·cases hb:isB a ZD
  ·have h2:=h1 a ZD;rw[hb]at h2;simp only[ZD]at h2
   have e:ZE Yj [a,key]= .mk 3 Yj 0 [a,key]:=by simp[ZE,hb,SND,FST,DEC,Yc,Yj]
   rw[e];simp only[Yj];simp[F.f176C,h2]
  ·have h2:=h1 a ZD;rw[hb]at h2;simp only[ZD]at h2
   obtain⟨x,y,hk⟩:=VO hg hb (by simp[Ye]);have hma:=Qr a;rw[hk]at hma;simp only[massL]at hma;have hpk:=HU hgk y;have h4:=h1 key PK;have e0:ZE Yj [a,key]=if isB key PK && decide (Qh (kid key 0) y=0)then x else .mk 3 Yj 0 [a,key]:=by
    rw[← hpk];simp[ZE,hb,kid,hk,SND,FST,DEC,Yc,Yj]
   rw[e0];cases hbp:isB key PK
   ·rw[hbp]at h4;simp only[PK]at h4
    simp only[Yj];simp[F.f176C,h2,h4,hk]
   ·rw[hbp]at h4;simp only[PK]at h4
    obtain⟨hyk,hyn⟩:=XX.1 hbp;have har:=(Ww hgk hyk).2;rw[hyn]at har;have hl1:key.kids.length=1:=by simpa[Ye,PK,QK,ENC,Zz,ZD,EXP,DEC,Yc,Yj]using har
    obtain⟨z,hz⟩:=List.length_eq_one_iff.1 hl1;have hmy:=Qr key;rw[hz]at hmy;simp only[massL]at hmy;have h3:=On y z bs (by omega) (by omega);have hk0:kid key 0=z:=by simp[kid,hz]
    have hsym: (Qh z y=0)=(Qh y z=0):=by
     have:=Yn y z;rw[eq_iff_iff];omega
    rw[hk0];by_cases hc:Qh y z=0
    ·simp only[Yj];simp[F.f176C,h2,h3,h4,hc,hk,hz,hsym]
    ·simp only[Yj];simp[F.f176C,h2,h3,h4,hc,hk,hz,hsym]
def KM (l:List Pw) (M:Nat):Prop:=∀q∈l,q.1.mass≤M
theorem HW {l:List Pw} {t:Tm} {m:Int} {M:Nat} (h:KM l M) (ht:t.mass≤M):KM (Y0 l t m) M:=by
 intro q hq;rcases UG hq with hq | rfl | ⟨_,_,rfl,_⟩
 ·exact h q hq
 ·exact ht
 ·exact ht
theorem Qcw: ∀(t:Tm) (l:List Pw) (m:Int) (M:Nat),KM l M→t.mass≤M→KM (Vv l t m) M:=by
 refine ZU ?_;intro k n s ks ih l m M h hm;have hme:=Qr (.mk k n s ks);simp only[QX,Zk]at hme;have hL: ∀(xs:List Tm) (l:List Pw) (m:Int),(∀x∈xs,x∈ks)→KM l M→KM (colL l xs m) M:=by
  intro xs
  induction xs with
  | nil=>intro l m _ h;simpa[colL]using h
  | cons x xs IH=>
   intro l m hx h;simp only[colL];exact IH _ m (fun y hy=>hx y (by simp[hy])) (ih x (hx x (by simp)) l m M h (by have:=QN (hx x (by simp));omega))
 rw[Rk];split
 ·exact hL ks l _ (fun x hx=>hx) h
 ·exact HW h hm
theorem N6: ∀(b a:List Pw) (M:Nat),KM a M→KM b M→KM (WM a b) M
 | [],a,M,h,_=>h
 | q:: b,a,M,h,hb=>N6 b _ M (HW h (hb q (by simp))) fun x hx=>hb x (by simp[hx])
theorem JF (t:Tm) (M:Nat) (h:t.mass≤M):KM (ofP t) M:=by
 unfold ofP;split
 ·exact Qcw t [] 1 M (fun q hq=>by simp at hq) h
 ·intro q hq;simp at hq
theorem MP (t:Tm): (ofP t).length≤200:=by
 unfold ofP;split
 ·rename_i h;unfold ofE at h;split at h
  ·rename_i h1;exact absurd h h1
  ·split at h
   ·split at h
    ·cases h
    ·omega
   ·cases h
 ·simp
theorem Fv {l:List Pw} (h:Xp l=0):l.length≤200:=by
 unfold Xp at h;split at h
 ·cases h
 ·split at h
  ·cases h
  ·omega
theorem Al (a b:List Pw): (Vx a b).length≤200:=by
 unfold Vx;split
 ·rename_i h;unfold UY at h;split at h
  ·rename_i h1;exact absurd h h1
  ·split at h
   ·rename_i h1;exact absurd h h1
   ·exact Fv h
 ·simp
theorem Qcx {a b:List Pw} {M:Nat} (ha:KM a M) (hb:KM b M):KM (Vx a b) M:=by
 unfold Vx;split
 ·exact N6 b a M ha hb
 ·intro q hq;simp at hq
theorem Lv (n:Nat) (t:Tm):massL (List.replicate n t)=n*t.mass:=by
 induction n with
 | zero=>simp[massL]
 | succ n ih=>rw[List.replicate_succ,massL,ih,Nat.succ_mul];omega
theorem Dq (t:Tm): (S3 t).mass=t.mass+5:=by simp only[S3,Tm.mass,massL,INV,List.length_cons,List.length_nil];omega
theorem Mb: ∀{l:List Pw} {M:Nat},KM l M→(∀q∈l,q.2≤8)→massL (Wg l)≤l.length* (8*M)
 | [],M,_,_=>by simp[Wg,massL]
 | p:: l,M,h,hb=>by
  have h1:=Mb (l:=l) (M:=M) (fun q hq=>h q (by simp[hq])) fun q hq=>hb q (by simp[hq]);have h2:=h p (by simp);have h3:=hb p (by simp);have h4:p.2.toNat* p.1.mass≤8*M:=Nat.mul_le_mul (by omega) h2;have e:Wg (p:: l)=List.replicate p.2.toNat p.1 ++ Wg l:=by simp[Wg]
  rw[e,Vb,Lv,List.length_cons,Nat.succ_mul];omega
theorem Ma: ∀{l:List Pw} {M:Nat},KM l M→(∀q∈l,-8≤q.2)→massL (Wf l)≤l.length* (8* (M+5))
 | [],M,_,_=>by simp[Wf,massL]
 | p:: l,M,h,hb=>by
  have h1:=Ma (l:=l) (M:=M) (fun q hq=>h q (by simp[hq])) fun q hq=>hb q (by simp[hq]);have h2:=h p (by simp);have h3:=hb p (by simp);have h4: (-p.2).toNat* (S3 p.1).mass≤8* (M+5):=Nat.mul_le_mul (by omega) (by rw[Dq];omega);have e:Wf (p:: l)=List.replicate (-p.2).toNat (S3 p.1)++ Wf l:=by simp[Wf]
  rw[e,Vb,Lv,List.length_cons,Nat.succ_mul];omega
theorem Fg {l:List Pw} (h:KM l 25000000) (hl:l.length≤200) (hb: ∀q∈l,-8≤q.2∧q.2≤8):massL (Yl l) < big - 100:=by
 have h1:=Mb h fun q hq=>(hb q hq).2;have h2:=Ma h fun q hq=>(hb q hq).1;have h3:l.length* (8*25000000)≤200* (8*25000000):=Nat.mul_le_mul_right _ hl;have h4:l.length* (8* (25000000+5))≤200* (8* (25000000+5)):=Nat.mul_le_mul_right _ hl;unfold Yl;rw[Vb];unfold big;omega
theorem O3 {l:List Pw} (o:Bool) (bs:List (List AV)) (h:KM l 25000000) (hl:l.length≤200):call F.tb 196 [.sl o 5 (QU l)] bs=some (ZO (YB l),bs):=
 Qbi l o bs (by omega) (fun q hq=>by have:=h q hq;unfold big;omega) (Fg h hl)
def US (b:Tm) (p:List Pw):Tm×Int:=if p=[]then(b,0)else if(YB p).2≠0 then(Qs,(YB p).2)else(.mk 3 EXP 0 [b,(YB p).1],0)
def Vy (b e:Tm):Tm×Int:=
 if ofE e≠0 then(Qs,ofE e)
 else if isB b EXP then
  if ofE (kid b 1)≠0 then(Qs,ofE (kid b 1))else if UY (ofP (kid b 1)) (ofP e)≠0 then(Qs,UY (ofP (kid b 1)) (ofP e))else US (kid b 0) (Vx (ofP (kid b 1)) (ofP e))
 else US b (ofP e)
def Wh (t:Tm):Tm×Int:=if ofE t≠0 then(Qs,ofE t)else YB (ofP t)
theorem ZB (t:Tm) (e:Int):ZO (t,e)= .tup [.agg (Qb t),.int .i64 e]:=rfl
theorem Qbj (b e:Tm) (bs:List (List AV)) (hg:QI b=true) (hb:b.mass < 20000000) (he:e.mass < 20000000):call F.tb 199 [.agg (Qb b),.agg (Qb e)] bs=some (ZO (Vy b e),bs):=by
 have h1:=Rf e bs (by omega);have h2:=V1 b EXP bs;have ke:=JF e 25000000 (by omega);have le:=MP e;rw[Qa F.tb_199 _ _ rfl];by_cases c1:ofE e=0
 ·cases hx:isB b EXP
  ·rw[hx]at h2;simp only[EXP]at h2
   have h4:=O3 false bs ke le;have e0:Vy b e=US b (ofP e):=by simp[Vy,c1,hx]
   rw[e0];generalize ofP e=p at *
   match p with
   | []=>
    simp only[V2]at h1;simp[F.f199C,h1,h2,c1,US,ZB]
   | q:: r=>
    have n0: ¬(r.length:Int)+1=0:=by omega
    by_cases c2: (YB (q:: r)).2=0
    ·have h5:=KS EXP [b,(YB (q:: r)).1] false bs;simp only[ZO,encTs]at h4 h5;simp only[EXP]at h5;simp[F.f199C,h1,h2,h4,h5,c1,c2,n0,US,ZB,EXP]
    ·simp only[ZO]at h4;simp[F.f199C,h1,h2,h4,c1,c2,n0,US,ZB,Zf]
  ·obtain⟨x,y,hk⟩:=VO hg hx (by simp[Ye]);rw[hx]at h2;simp only[EXP]at h2
   have hmb:=Qr b;rw[hk]at hmb;simp only[massL]at hmb;have k0:kid b 0=x:=by simp[kid,hk]
   have k1:kid b 1=y:=by simp[kid,hk]
   have h3:=Rf y bs (by omega);have ky:=JF y 25000000 (by omega);have ly:=MP y;by_cases c2:ofE y=0
   ·have h4:=Qbk (ofP y) (ofP e) false false bs (by omega) (by omega) (fun q hq=>by have:=ky q hq;unfold big;omega) (fun q hq=>by have:=ke q hq;unfold big;omega);by_cases c3:UY (ofP y) (ofP e)=0
    ·have h6:=O3 false bs (Qcx ky ke) (Al (ofP y) (ofP e));have e0:Vy b e=US x (Vx (ofP y) (ofP e)):=by simp[Vy,c1,hx,k0,k1,c2,c3]
     rw[e0];generalize Vx (ofP y) (ofP e)=p at *
     match p with
     | []=>
      simp only[V2]at h4;simp[F.f199C,h1,h2,h3,h4,hk,c1,c2,c3,US,ZB]
     | q:: r=>
      have n0: ¬(r.length:Int)+1=0:=by omega
      by_cases c4: (YB (q:: r)).2=0
      ·have h5:=KS EXP [x,(YB (q:: r)).1] false bs;simp only[ZO,encTs]at h6 h5;simp only[EXP]at h5;simp[F.f199C,h1,h2,h3,h4,h5,h6,hk,c1,c2,c3,c4,n0,US,ZB,EXP]
      ·simp only[ZO]at h6;simp[F.f199C,h1,h2,h3,h4,h6,hk,c1,c2,c3,c4,n0,US,ZB,Zf]
    ·have e0:Vy b e=(Qs,UY (ofP y) (ofP e)):=by simp[Vy,c1,hx,k1,c2,c3]
     rw[e0];simp[F.f199C,h1,h2,h3,h4,hk,c1,c2,c3,ZB,Zf]
   ·have e0:Vy b e=(Qs,ofE y):=by simp[Vy,c1,hx,k1,c2]
    rw[e0];simp[F.f199C,h1,h2,h3,hk,c1,c2,ZB,Zf]
 ·have e0:Vy b e=(Qs,ofE e):=by simp[Vy,c1]
  rw[e0];simp[F.f199C,h1,c1,ZB,Zf]
theorem OR {n:List UInt8} (h:QP n=true):n.length≤24:=by
 cases n with
 | nil=>simp
 | cons c r=>
  simp only[QP,Bool.and_eq_true,decide_eq_true_eq]at h;simp only[List.length_cons];omega
theorem JK {t:Tm} (h:W2 t=0):t.name.length≤24∧t.kids.length≤8∧(t.kind=3→t.sort=0)∧(t.kind≠3→t.kids=[]):=by
 unfold W2 at h;split at h
 ·rename_i hk;split at h
  ·cases h
  ·rename_i h1;split at h
   ·cases h
   ·rename_i h2;have h3:t.kids.length=0:=by omega
    exact⟨OR (by simpa using h2),by omega,fun e=>by omega,fun _=>List.eq_nil_of_length_eq_zero h3⟩
 ·split at h
  ·rename_i hk;split at h
   ·cases h
   ·rename_i h1;split at h
    ·cases h
    ·rename_i h2;split at h
     ·cases h
     ·exact⟨OR (by simpa using h2),by omega,fun _=>by simpa using h1,fun e=>absurd hk e⟩
  ·cases h
mutual
theorem Lj: ∀t:Tm,ZI t=0→t.mass≤33*t.nodes
 | .mk k n s ks,h=>by
  simp only[ZI]at h;split at h
  ·rename_i h1;exact absurd h h1
  ·rename_i h1;obtain⟨a,b,_⟩:=JK (t:= .mk k n s ks) (by simpa using h1);have:=errL_mass ks h;simp only[Zk,QX]at a b;simp only[Tm.mass,Tm.nodes];omega
theorem errL_mass: ∀ts:List Tm,errL ts=0→massL ts≤33*nodesL ts
 | [],_=>by simp[massL,nodesL]
 | t:: ts,h=>by
  simp only[errL]at h;split at h
  ·rename_i h1;exact absurd h h1
  ·rename_i h1;have a:=Lj t (by simpa using h1);have b:=errL_mass ts h;simp only[massL,nodesL];omega
end
theorem YV {t:Tm} (h:QD t=0):ZI t=0∧t.nodes≤400∧t.mass≤13200:=by
 unfold QD at h;split at h
 ·rename_i h1;exact absurd h h1
 ·rename_i h1;split at h
  ·cases h
  ·have:=Lj t (by simpa using h1);exact⟨by simpa using h1,by omega,by omega⟩
theorem Dd {n:List UInt8} {y:Sy} (h:Q4 n Z6=some y) (m:Nat) (h1: ¬((m:Int) < y.l∨y.m < m)):Ye n m=true:=by
 unfold Ye;split
 ·rename_i hn;have:y.l=2∧y.m=2:=by rcases hn with rfl | rfl | rfl | rfl | rfl | rfl | rfl | rfl <;> simp[QK,ENC,Zz,ZD,EXP,DEC,Yc,Yj,Q4,Z6]at h <;> subst h <;> simp
  simp;omega
 ·split
  ·rename_i hn;have:y.l=1∧y.m=1:=by rcases hn with rfl | rfl | rfl | rfl <;> simp[PK,FST,SND,READ,Q4,Z6]at h <;> subst h <;> simp
   simp;omega
  ·rfl
mutual
theorem NU: ∀t:Tm,ZI t=0→Z5 t=0→QI t=true
 | .mk k n s ks,h,hc=>by
  simp only[ZI]at h;split at h
  ·rename_i h1;exact absurd h h1
  ·rename_i h1;obtain⟨_,_,a,b⟩:=JK (t:= .mk k n s ks) (by simpa using h1);simp only[Xm,Vl,QX]at a b;simp only[Z5]at hc;by_cases hk:k=3
   ·subst hk;rw[if_neg (by simp)]at hc;cases hy:Q4 n Z6 with
    | none=>rw[hy]at hc;simp at hc
    | some y=>
     rw[hy]at hc;simp only at hc;split at hc
     ·cases hc
     ·rename_i h2;have har:=Dd hy ks.length h2;split at hc
      ·cases hc
      ·split at hc
       ·cases hc
       ·have:=goodL_valid ks h hc;simp[QI,a rfl,har,this]
   ·have:=b hk;subst this;simp[QI,hk,goodL]
theorem goodL_valid: ∀ts:List Tm,errL ts=0→chkL ts=0→goodL ts=true
 | [],_,_=>rfl
 | t:: ts,h,hc=>by
  simp only[errL]at h;simp only[chkL]at hc;split at h
  ·rename_i h1;exact absurd h h1
  ·rename_i h1;split at hc
   ·rename_i h2;exact absurd hc h2
   ·rename_i h2;simp[goodL,NU t (by simpa using h1) (by simpa using h2),goodL_valid ts h hc]
end
mutual
theorem PZ: ∀(t y:Tm),QI t=true→y∈Q1 t→QI y=true
 | .mk k n s ks,y,h,hy=>by
  simp only[Q1,List.mem_cons]at hy;rcases hy with rfl | hy
  ·exact h
  ·exact good_allL ks y (Wv h) hy
theorem good_allL: ∀(ts:List Tm) (y:Tm),goodL ts=true→y∈allL ts→QI y=true
 | [],y,_,hy=>by simp[allL]at hy
 | t:: ts,y,h,hy=>by
  simp only[goodL,Bool.and_eq_true]at h;simp only[allL,List.mem_append]at hy;rcases hy with hy | hy
  ·exact PZ t y h.1 hy
  ·exact good_allL ts y h.2 hy
end
theorem Xe:QI Qs=true:=by simp[Qs,QI,goodL]
theorem VN {n:List UInt8} {us:List Tm} (ha:Ye n us.length=true) (h:goodL us=true):QI (.mk 3 n 0 us)=true:=by simp[QI,ha,h]
theorem Nd {t:Tm} (h:QI t=true) (i:Nat):QI (kid t i)=true:=by
 unfold kid;rw[List.getD_eq_getElem?_getD];cases hg:t.kids[i]? with
 | none=>simpa using Xe
 | some x=>exact XD.1 (Wv h) x (List.mem_of_getElem? hg)
theorem VR (t:Tm) (i:Nat): (kid t i).mass≤t.mass:=by
 unfold kid;rw[List.getD_eq_getElem?_getD];have:=Qr t;cases hg:t.kids[i]? with
 | none=>simp[Qs,Tm.mass,massL];omega
 | some x=>have:=QN (List.mem_of_getElem? hg);simp;omega
theorem Di {us:List Tm} (h:goodL us=true):QI (U4 us).1=true:=by
 unfold U4;split
 ·exact Xe
 ·split
  ·exact Xe
  ·have hL: ∀y∈sumL [] us,QI y=true:=fun y hy=>by
    rcases sumL_mem us [] y hy with h1 | h1
    ·simp at h1
    ·exact good_allL us y h h1
   show QI (tmX (sumL [] us))=true
   match hh:sumL [] us with
   | []=>simp[tmX,QI,goodL,Ye,Xr,QK,ENC,Zz,ZD,EXP,DEC,Yc,Yj,PK,FST,SND,READ]
   | [p]=>simp only[tmX];exact hL p (by rw[hh];simp)
   | p:: q:: r=>
    simp only[tmX];refine VN (by simp[Ye,XOR,QK,ENC,Zz,ZD,EXP,DEC,Yc,Yj,PK,FST,SND,READ]) (XD.2 fun x hx=>hL x (by rw[hh];exact hx))
theorem Dy (us:List Tm): (U4 us).1.mass≤13200:=by
 unfold U4;split
 ·simp[Qs,Tm.mass,massL]
 ·split
  ·simp[Qs,Tm.mass,massL]
  ·rename_i h;exact(YV (by simpa using h)).2.2
theorem Ue:Qs.mass=1:=by simp[Qs,Tm.mass,massL]
def KG (l:List Pw):Prop:=∀q∈l,QI q.1=true
theorem HV {l:List Pw} {t:Tm} {m:Int} (h:KG l) (ht:QI t=true):KG (Y0 l t m):=by
 intro q hq;rcases UG hq with hq | rfl | ⟨_,_,rfl,_⟩
 ·exact h q hq
 ·exact ht
 ·exact ht
theorem Qcu: ∀(t:Tm) (l:List Pw) (m:Int),KG l→QI t=true→KG (Vv l t m):=by
 refine ZU ?_;intro k n s ks ih l m h hm;have hk:=XD.1 (Wv hm);have hL: ∀(xs:List Tm) (l:List Pw) (m:Int),(∀x∈xs,x∈ks)→KG l→KG (colL l xs m):=by
  intro xs
  induction xs with
  | nil=>intro l m _ h;simpa[colL]using h
  | cons x xs IH=>
   intro l m hx h;simp only[colL];exact IH _ m (fun y hy=>hx y (by simp[hy])) (ih x (hx x (by simp)) l m h (hk x (hx x (by simp))))
 rw[Rk];split
 ·exact hL ks l _ (fun x hx=>hx) h
 ·exact HV h hm
theorem N4: ∀(b a:List Pw),KG a→KG b→KG (WM a b)
 | [],a,h,_=>h
 | q:: b,a,h,hb=>N4 b _ (HV h (hb q (by simp))) fun x hx=>hb x (by simp[hx])
theorem N5 {t:Tm} (h:QI t=true):KG (ofP t):=by
 unfold ofP;split
 ·exact Qcu t [] 1 (fun q hq=>by simp at hq) h
 ·intro q hq;simp at hq
theorem Qcv {a b:List Pw} (ha:KG a) (hb:KG b):KG (Vx a b):=by
 unfold Vx;split
 ·exact N4 b a ha hb
 ·intro q hq;simp at hq
theorem Dh {l:List Pw} (h:KG l):goodL (Yl l)=true:=by
 refine XD.2 fun x hx=> ?_;simp only[Yl,Wg,Wf,List.mem_append,List.mem_flatten,List.mem_map]at hx;rcases hx with⟨_,⟨q,hq,rfl⟩,hx⟩ | ⟨_,⟨q,hq,rfl⟩,hx⟩
 ·rw[List.eq_of_mem_replicate hx];exact h q hq
 ·rw[List.eq_of_mem_replicate hx];exact VN (by simp[Ye,INV,QK,ENC,Zz,ZD,EXP,DEC,Yc,Yj,PK,FST,SND,READ]) (by simp[goodL,h q hq])
theorem NT {l:List Pw} (h:KG l):QI (YB l).1=true:=by
 unfold YB;split
 ·exact Xe
 ·split
  ·exact Xe
  ·split
   ·exact Xe
   ·have hL:=Dh h
    show QI (YL (Yl l))=true
    match hh:Yl l with
    | []=>simp[YL,QI,goodL,Ye,ONE,QK,ENC,Zz,ZD,EXP,DEC,Yc,Yj,PK,FST,SND,READ]
    | [p]=>simp only[YL];rw[hh]at hL;simpa[goodL]using hL
    | p:: q:: r=>
     simp only[YL];rw[hh]at hL;exact VN (by simp[Ye,MUL,QK,ENC,Zz,ZD,EXP,DEC,Yc,Yj,PK,FST,SND,READ]) hL
theorem Mc (l:List Pw): (YB l).1.mass≤13200:=by
 unfold YB;split
 ·simp[Qs,Tm.mass,massL]
 ·split
  ·simp[Qs,Tm.mass,massL]
  ·split
   ·simp[Qs,Tm.mass,massL]
   ·rename_i h;exact(YV (by simpa using h)).2.2
theorem LV {t:Tm} (h:QI t=true):QI (Wh t).1=true:=by
 unfold Wh;split
 ·exact Xe
 ·exact NT (N5 h)
theorem LY (t:Tm): (Wh t).1.mass≤13200:=by
 unfold Wh;split
 ·simp[Qs,Tm.mass,massL]
 ·exact Mc _
theorem HS {b:Tm} {p:List Pw} (hb:QI b=true) (hp:KG p):QI (US b p).1=true∧(US b p).1.mass≤6+b.mass+13200:=by
 have h0:=Mc p;unfold US;split
 ·exact⟨hb,by simp;omega⟩
 ·split
  ·exact⟨Xe,by show Qs.mass≤_;rw[Ue];omega⟩
  ·exact⟨VN (by simp[Ye]) (by simp[goodL,hb,NT hp]),by simp only[Tm.mass,massL,EXP,List.length_cons,List.length_nil];omega⟩
theorem QcS {b e:Tm} (hb:QI b=true) (he:QI e=true):QI (Vy b e).1=true∧(Vy b e).1.mass≤6+b.mass+13200:=by
 have hz:QI Qs=true∧Qs.mass≤6+b.mass+13200:=⟨Xe,by show Qs.mass≤_;rw[Ue];omega⟩;have hk:=VR b 0;unfold Vy;split
 ·exact hz
 ·split
  ·split
   ·exact hz
   ·split
    ·exact hz
    ·obtain⟨h1,h2⟩:=HS (Nd hb 0) (Qcv (N5 (Nd hb 1)) (N5 he));exact⟨h1,by omega⟩
  ·exact HS hb (N5 he)
theorem BH {n:List UInt8} {us:List Tm} (ha:Ye n us.length=true) (h:goodL us=true):QI (ZE n us)=true∧(ZE n us).mass≤1+n.length+us.length+massL us:=by
 have hout:QI (.mk 3 n 0 us)=true∧(Tm.mk 3 n 0 us).mass≤1+n.length+us.length+massL us:=⟨VN ha h,by simp[Tm.mass]⟩;have ha0:QI (us.getD 0 Qs)=true∧(us.getD 0 Qs).mass≤1+massL us:=by
  cases us with
  | nil=>exact⟨Xe,by simp[Qs,Tm.mass,massL]⟩
  | cons x r=>simp only[goodL,Bool.and_eq_true]at h;exact⟨h.1,by simp[massL];omega⟩
 have hkid: ∀i,QI (kid (us.getD 0 Qs) i)=true∧(kid (us.getD 0 Qs) i).mass≤1+n.length+us.length+massL us:=fun i=>⟨Nd ha0.1 i,by have:=VR (us.getD 0 Qs) i;omega⟩;simp only[ZE]
 repeat' split
 all_goals first | exact hout | exact hkid _
def Xk (n:List UInt8) (us:List Tm):Tm×Int:=
 if WY n then(ZE n us,0)else if n=XOR then U4 us else if n=MUL∨n=INV∨n=ONE then Wh (.mk 3 n 0 us)
 else if n=EXP then Vy (us.getD 0 Qs) (us.getD 1 Qs)else(.mk 3 n 0 us,0)
mutual
def ZY:Tm→Tm×Int
 | .mk k n s ks=>if k=3 then(if(normL ks).2=0 then Xk n (normL ks).1 else(Qs,(normL ks).2))else(.mk k n s ks,0)
def normL:List Tm→List Tm×Int
 | []=>([],0)
 | t:: ts=>if(ZY t).2=0 then(if(normL ts).2=0 then((ZY t).1:: (normL ts).1,0)else([],(normL ts).2))else([],(ZY t).2)
end
theorem Ab {n:List UInt8} {us:List Tm} (ha:Ye n us.length=true) (h:goodL us=true):QI (Xk n us).1=true∧(Xk n us).1.mass≤1+n.length+us.length+massL us+13200:=by
 unfold Xk;split
 ·obtain⟨h1,h2⟩:=BH ha h;exact⟨h1,by simp;omega⟩
 ·split
  ·exact⟨Di h,by have:=Dy us;omega⟩
  ·split
   ·exact⟨LV (VN ha h),by have:=LY (.mk 3 n 0 us);omega⟩
   ·split
    ·rename_i hn;subst hn;have h2:us.length=2:=by simpa[Ye]using ha
     match us,h2,h with
     | [x,y],_,h=>
      simp only[goodL,Bool.and_eq_true]at h;obtain⟨h3,h4⟩:=QcS h.1 h.2.1;exact⟨h3,by simp only[massL,EXP,List.length_cons,List.length_nil]at *;simp at h4 ⊢;omega⟩
    ·exact⟨VN ha h,by simp[Tm.mass]⟩
mutual
theorem Nj: ∀t:Tm,QI t=true→QI (ZY t).1=true∧(ZY t).1.mass≤t.mass+13200*t.nodes
 | .mk k n s ks,h=>by
  have hk:=normL_ok ks (Wv h);simp only[ZY];split
  ·rename_i hk3;subst hk3;split
   ·rename_i h2;obtain⟨h3,h4,h5⟩:=hk;have h5:=h5 h2;have har:=(Ww h rfl).2;simp only[Zk,QX]at har;obtain⟨h6,h7⟩:=Ab (by rw[h5];exact har) h3;exact⟨h6,by simp only[Tm.mass,Tm.nodes];rw[h5]at h7;omega⟩
   ·exact⟨Xe,by show Qs.mass≤_;rw[Ue];simp only[Tm.mass];omega⟩
  ·exact⟨h,Nat.le_add_right _ _⟩
theorem normL_ok: ∀ts:List Tm,goodL ts=true→goodL (normL ts).1=true∧massL (normL ts).1≤massL ts+13200*nodesL ts∧((normL ts).2=0→(normL ts).1.length=ts.length)
 | [],_=>by simp[normL,goodL,massL]
 | t:: ts,h=>by
  simp only[goodL,Bool.and_eq_true]at h;obtain⟨a1,a2⟩:=Nj t h.1;obtain⟨b1,b2,b3⟩:=normL_ok ts h.2;simp only[normL];split
  ·split
   ·rename_i h2;refine⟨by simp[goodL,a1,b1],by simp only[massL,nodesL];omega,fun _=>by simp[b3 h2]⟩
   ·rename_i h2;exact⟨rfl,by simp[massL],fun e=>absurd e h2⟩
  ·rename_i h2;exact⟨rfl,by simp[massL],fun e=>absurd e h2⟩
end
theorem Me {x:Tm}: ∀{ks:List Tm},x∈ks→x.nodes≤nodesL ks
 | [],h=>by cases h
 | t:: ts,h=>by
  simp only[nodesL];rcases List.mem_cons.1 h with rfl | h
  ·omega
  ·have:=Me h;omega
theorem PO {n:List UInt8} (h:WY n=true): (n=FST∨n=SND∨n=READ)∨(n=DEC∨n=Yc∨n=Yj):=by
 simp only[WY,Bool.or_eq_true,beq_iff_eq]at h;rcases h with((((h | h) | h) | h) | h) | h <;> simp[h]
theorem Qbe {n:List UInt8} {us:List Tm} (bs:List (List AV)) (hn:WY n=true) (ha:Ye n us.length=true) (hg:goodL us=true) (hm:massL us < 20000000):call F.tb 176 [.agg (Qb (.mk 3 n 0 us))] bs=some (.agg (Qb (ZE n us)),bs):=by
 rcases PO hn with h | h
 ·have h1:us.length=1:=by rcases h with rfl | rfl | rfl <;> simpa[Ye,PK,QK,ENC,Zz,ZD,EXP,DEC,Yc,Yj,FST,SND,READ]using ha
  obtain⟨a,rfl⟩:=List.length_eq_one_iff.1 h1;simp only[goodL,Bool.and_eq_true]at hg;simp only[massL]at hm;exact BI n a bs h hg.1 (by unfold big;omega)
 ·have h1:us.length=2:=by rcases h with rfl | rfl | rfl <;> simpa[Ye]using ha
  match us,h1,hg,hm with
  | [a,b],_,hg,hm=>
   simp only[goodL,Bool.and_eq_true]at hg;simp only[massL]at hm;exact BJ n a b bs h hg.1 hg.2.1 (by unfold big;omega) (by unfold big;omega)
def MX (us:List Tm) (n:List UInt8):Prop:=massL us+n.length+us.length < 15000000
set_option maxHeartbeats 2000000 in
theorem QcB (t:Tm) (us:List Tm) (bs:List (List AV)) (ha:Ye t.name us.length=true) (hg:goodL us=true) (hm:MX us t.name) (ρ:Nat→AV) (h1:ρ 1= .bx (Qb t)) (h2:ρ 2= .bx [.int .i64 0,.str [],.int .i64 0,.sl true 4 []])
  (h4:ρ 4= .bx [.int .i64 3,.str t.name,.int .i64 0,.sl true 4 (encTs us)]):R F.tb F.f175r0 ρ bs (Qy F.f175 bs)=some (ZO (Xk t.name us),bs):=by
 unfold MX at hm;have hf:=V3 3 t.name 0 us;have hgp:gpfreeE (encTs us)=true:=encTs_gp us;obtain⟨n,hn⟩: ∃n,t.name=n:=⟨_,rfl⟩;rw[hn]at ha hm h4 hf ⊢;cases hd:WY n
 ·have hd':=hd;simp only[WY,Bool.or_eq_false_iff]at hd';obtain⟨⟨⟨⟨⟨d1,d2⟩,d3⟩,d4⟩,d5⟩,d6⟩:=hd';simp only[FST,SND,DEC,Yc,Yj,READ]at d1 d2 d3 d4 d5 d6;by_cases hx:n=XOR
  ·subst hx;have e:Xk XOR us=U4 us:=by simp[Xk,hd]
   have hc:=Br us false bs (by omega) (by omega);rw[e];simp only[ZO]at hc ⊢;simp only[XOR]at *;simp[F.f175r0,h1,h2,h4,hn,hc]
  ·by_cases hp:n=MUL∨n=INV∨n=ONE
   ·have e:Xk n us=Wh (.mk 3 n 0 us):=by simp only[Xk,hd,hx,hp,if_true,if_false];simp
    have hmass: (Tm.mk 3 n 0 us).mass < 20000000:=by simp only[Tm.mass];omega
    have hc:=Rf (.mk 3 n 0 us) bs (by omega);have hc2:=O3 false bs (JF (.mk 3 n 0 us) 25000000 (by omega)) (MP _);rw[← hf]at hc;rw[e];by_cases c:ofE (.mk 3 n 0 us)=0
    ·have e2:Wh (.mk 3 n 0 us)=YB (ofP (.mk 3 n 0 us)):=by simp[Wh,c]
     rw[e2];simp only[ZO]at hc2 ⊢;rw[c]at hc;generalize ofP (.mk 3 n 0 us)=P at *;rcases hp with rfl | rfl | rfl
     ·simp only[MUL]at *;simp[F.f175r0,h1,h2,h4,hn,hc,hc2]
     ·simp only[INV]at *;simp[F.f175r0,h1,h2,h4,hn,hc,hc2]
     ·simp only[ONE]at *;simp[F.f175r0,h1,h2,h4,hn,hc,hc2]
    ·have e2:Wh (.mk 3 n 0 us)=(Qs,ofE (.mk 3 n 0 us)):=by simp[Wh,c]
     rw[e2];generalize ofE (.mk 3 n 0 us)=E at *;generalize ofP (.mk 3 n 0 us)=P at *;rcases hp with rfl | rfl | rfl
     ·simp only[MUL]at *;simp[F.f175r0,h1,h2,h4,hn,hc,c,ZB,Zf]
     ·simp only[INV]at *;simp[F.f175r0,h1,h2,h4,hn,hc,c,ZB,Zf]
     ·simp only[ONE]at *;simp[F.f175r0,h1,h2,h4,hn,hc,c,ZB,Zf]
   ·by_cases he:n=EXP
    ·have e:Xk n us=Vy (us.getD 0 Qs) (us.getD 1 Qs):=by subst he;simp only[Xk,hd,if_neg hx,if_neg hp];simp
     subst he;have hl:us.length=2:=by simpa[Ye]using ha
     match us,hl,hg,hm,h4,e with
     | [x,y],_,hg,hm,h4,e=>
      simp only[goodL,Bool.and_eq_true]at hg;simp only[massL]at hm;have hc:=Qbj x y bs hg.1 (by omega) (by omega);rw[e];simp only[ZO]at hc ⊢;simp only[List.getD_cons_zero,List.getD_cons_succ]at *;simp only[EXP]at *;simp[F.f175r0,h1,h2,h4,hn,hc]
    ·have e:Xk n us=(.mk 3 n 0 us,0):=by simp only[Xk,hd,hx,hp,he,if_false];simp
     rw[e];have b1: (n == XOR)=false:=by simpa using hx
     have b2: (n == MUL)=false:=by simp at hp ⊢;exact hp.1
     have b3: (n == INV)=false:=by simp at hp ⊢;exact hp.2.1
     have b4: (n == ONE)=false:=by simp at hp ⊢;exact hp.2.2
     have b5: (n == EXP)=false:=by simpa using he
     simp only[XOR,MUL,INV,ONE,EXP]at b1 b2 b3 b4 b5;simp[F.f175r0,h1,h2,h4,hn,d1,d2,d3,d4,d5,d6,b1,b2,b3,b4,b5,ZB,Qz]
 ·have e:Xk n us=(ZE n us,0):=by simp[Xk,hd]
  have hc:=Qbe bs hd ha hg (by omega);rw[← hf]at hc;rw[e];generalize ZE n us=D at *;rcases PO hd with(rfl | rfl | rfl) | (rfl | rfl | rfl)
  ·simp only[FST]at *;simp[F.f175r0,h1,h2,h4,hn,hc,ZB]
  ·simp only[SND]at *;simp[F.f175r0,h1,h2,h4,hn,hc,ZB]
  ·simp only[READ]at *;simp[F.f175r0,h1,h2,h4,hn,hc,ZB]
  ·simp only[DEC]at *;simp[F.f175r0,h1,h2,h4,hn,hc,ZB]
  ·simp only[Yc]at *;simp[F.f175r0,h1,h2,h4,hn,hc,ZB]
  ·simp only[Yj]at *;simp[F.f175r0,h1,h2,h4,hn,hc,ZB]
def Tf (n:List UInt8) (us:List Tm) (r:List Tm×Int):Tm×Int:=if r.2=0 then Xk n (us ++ r.1)else(Qs,r.2)
theorem DC (t:Tm) (bs:List (List AV)) (hg:QI t=true) (hk3:t.kind=3) (hm:t.mass+13200*t.nodes < 15000000) (ih: ∀x∈t.kids,∀bs,call F.tb 175 [.agg (Qb x)] bs=some (ZO (ZY x),bs)):
  ∀(post pre us:List Tm) (ρ:Nat→AV),t.kids=pre ++ post→us.length=pre.length→goodL us=true→massL us≤massL pre+13200*nodesL pre→ρ 1= .bx (Qb t)→ρ 2= .bx [.int .i64 0,.str [],.int .i64 0,.sl true 4 []]→
   ρ 4= .bx [.int .i64 3,.str t.name,.int .i64 0,.sl true 4 (encTs us)]→ρ 19= .sl false 4 (encTs t.kids)→ρ 20= .int .i64 t.kids.length→ρ 21= .int .i64 pre.length→
  R F.tb (.loop F.f175l0) ρ bs (Qi 0 (Qu F.tb F.f175r0 (Qy F.f175 bs)))=some (ZO (Tf t.name us (normL post)),bs):=by
 have hme:=Qr t;have hne:=ZJ t;intro post
 induction post with
 | nil=>
  intro pre us ρ hk hl hgu hmu h1 h2 h4 h19 h20 h21;simp only[List.append_nil]at hk;rw[← hk]at h21 hl hmu;have har:=(Ww hg hk3).2;have hr:=QcB t us bs (by rw[hl];exact har) hgu (by unfold MX;omega);have e:Tf t.name us (normL [])=Xk t.name us:=by simp[Tf,normL]
  rw[Qd F.f175l0.eq_1,e];simp[h1,h2,h4,h19,h20,h21];apply hr <;> simp[h1,h2,h4]
 | cons x post IH=>
  intro pre us ρ hk hl hgu hmu h1 h2 h4 h19 h20 h21;have hg2:=QB hk;have hll:=QM hk;have hw1:=wr1 pre.length (by omega);have hlt:=QO hk;have hxk:x∈t.kids:=by rw[hk];simp
  have hc:=ih x hxk bs;obtain⟨n1,n2⟩:=Nj x (XD.1 (Wv hg) x hxk);simp only[ZO]at hc;rw[Qd F.f175l0.eq_1];by_cases c: (ZY x).2=0
  ·have e:Tf t.name us (normL (x:: post))=Tf t.name (us ++ [(ZY x).1]) (normL post):=by
    simp only[Tf,normL,c,if_true];by_cases c2: (normL post).2=0
    ·simp[c2]
    ·simp[c2]
   have hb: (us.length+1)*56≤140737488355328:=VI (by omega);have hi:=fun ρ=>IH (pre ++ [x]) (us ++ [(ZY x).1]) ρ (by rw[hk];simp) (by simp[hl]) (XD.2 fun y hy=>by
    rcases List.mem_append.1 hy with hy | hy
    ·exact XD.1 hgu y hy
    ·simp at hy;subst hy;exact n1) (by rw[Vb,Vb,Yz];simp only[massL,nodesL];omega)
   rw[e];simp[h1,h2,h4,h19,h20,h21,hg2,hlt,hw1,hc,c,hb,XC,Yg];apply hi <;> simp[h1,h2,h19,h20]
  ·have e:Tf t.name us (normL (x:: post))=(Qs,(ZY x).2):=by simp[Tf,normL,c]
   rw[e];simp[h1,h2,h4,h19,h20,h21,hg2,hlt,hc,c,ZB,Zf]
theorem Qbd: ∀(t:Tm) (bs:List (List AV)),QI t=true→t.mass+13200*t.nodes < 15000000→call F.tb 175 [.agg (Qb t)] bs=some (ZO (ZY t),bs):=by
 refine ZU ?_;intro k n s ks ih bs hg hm;have hme:=Qr (.mk k n s ks);have hne:=ZJ (.mk k n s ks);simp only[QX,Zk]at hme hne;rw[Qa F.tb_175 _ _ rfl];by_cases hk:k=3
 ·subst hk;have hl:=fun ρ=>DC (.mk 3 n s ks) bs hg rfl hm (fun x hx bs=>ih x hx bs (XD.1 (Wv hg) x hx) (by have h1:x.mass≤massL ks:=QN hx;have h2:x.nodes≤nodesL ks:=Me hx;omega)) ks [] [] ρ rfl rfl rfl (by simp[massL]);have e:ZY (.mk 3 n s ks)=Tf n [] (normL ks):=by simp[ZY,Tf]
  rw[e];simp only[Zk,QX]at hl;simp[F.f175C];apply hl <;> simp[encTs]
 ·have e:ZY (.mk k n s ks)=(.mk k n s ks,0):=by simp[ZY,hk]
  rw[e];simp[F.f175C,hk,ZB]
theorem OP {n:List UInt8}: ∀{l:List Sy} {y:Sy},Q4 n l=some y→y∈l∧y.n=n
 | [],y,h=>by simp[Q4]at h
 | s:: ss,y,h=>by
  simp only[Q4]at h;split at h
  ·rename_i hs;injection h with h;subst h;exact⟨by simp,hs⟩
  ·obtain⟨h1,h2⟩:=OP h;exact⟨by simp[h1],h2⟩
theorem Qaq:Z6.all (fun y=> !(y.k == 3) || WY y.n)=true:=by decide
def Fa (n:List UInt8):Int:=match Q4 n Z6 with | some y=>y.k | none=>0
theorem Qfv (n:List UInt8):decide (Fa n=3)=WY n:=by
 unfold Fa;cases hd:WY n
 ·cases hf:Q4 n Z6 with
  | none=>simp
  | some y=>
   obtain⟨h1,h2⟩:=OP hf;have h3:=List.all_eq_true.1 Qaq y h1;rw[h2,hd]at h3;simpa using h3
 ·rcases PO hd with(rfl | rfl | rfl) | (rfl | rfl | rfl) <;> simp[FST,SND,DEC,Yc,Yj,READ,Q4,Z6]
def XS (t:Tm):Tm×Int:=if thV t≠0 then(Qs,thV t)else if(ZY t).2≠0 then(Qs,(ZY t).2)else if QD (ZY t).1≠0 then(Qs,QD (ZY t).1)else((ZY t).1,0)
theorem MW {t:Tm} (h:thV t=0):QD t=0∧Z5 t=0∧QI t=true∧t.mass≤13200∧t.nodes≤400:=by
 unfold thV at h;split at h
 ·rename_i h1;exact absurd h h1
 ·rename_i h1;have h2:QD t=0:=by simpa using h1
  obtain⟨a,b,c⟩:=YV h2;exact⟨h2,h,NU t a h,c,b⟩
theorem Fk (t:Tm): (XS t).1.mass≤13200:=by
 unfold XS;split
 ·show Qs.mass≤_;rw[Ue];omega
 ·split
  ·show Qs.mass≤_;rw[Ue];omega
  ·split
   ·show Qs.mass≤_;rw[Ue];omega
   ·rename_i h;exact(YV (by simpa using h)).2.2
theorem Qbc (t:Tm) (bs:List (List AV)) (hm:t.mass < big):call F.tb 174 [.agg (Qb t)] bs=some (ZO (XS t),bs):=by
 have h1:=Sb t bs hm;rw[Qa F.tb_174 _ _ rfl];by_cases c1:thV t=0
 ·obtain⟨_,_,hg,hma,hno⟩:=MW c1;have h2:=Qbd t bs hg (by omega);obtain⟨n1,n2⟩:=Nj t hg;have h3:=XZ (ZY t).1 bs (by unfold big;omega);simp only[ZO]at h2;by_cases c2: (ZY t).2=0
  ·by_cases c3:QD (ZY t).1=0
   ·have e:XS t=((ZY t).1,0):=by simp[XS,c1,c2,c3]
    rw[e];simp[F.f174C,h1,h2,h3,c1,c2,c3,ZB]
   ·have e:XS t=(Qs,QD (ZY t).1):=by simp[XS,c1,c2,c3]
    rw[e];simp[F.f174C,h1,h2,h3,c1,c2,c3,ZB,Zf]
  ·have e:XS t=(Qs,(ZY t).2):=by simp[XS,c1,c2]
   rw[e];simp[F.f174C,h1,h2,c1,c2,ZB,Zf]
 ·have e:XS t=(Qs,thV t):=by simp[XS,c1]
  rw[e];simp[F.f174C,h1,c1,ZB,Zf]
theorem Qbp (n:List UInt8) (bs:List (List AV)):call F.tb 206 [.str n] bs=some (.bool (!WY n),bs):=by
 have h:=Xb n bs;have hk:=Qfv n;rw[Qa F.tb_206 _ _ rfl,← hk];unfold Fa;cases hf:Q4 n Z6 with
 | none=>
  rw[hf]at h;simp[F.f206C,h]
 | some y=>
  rw[hf]at h;simp[F.f206C,h,XW]
def ndN (t:Tm):Bool:= !(decide (t.kind=3) && WY t.name)
mutual
def evT:Tm→Bool
 | .mk k n s ks=>ndN (.mk k n s ks) && evL ks
def evL:List Tm→Bool
 | []=>true
 | t:: ts=>evT t && evL ts
end
theorem QdW (t:Tm):evT t=(ndN t && evL t.kids):=by cases t;simp[evT]
mutual
theorem HP: ∀t:Tm,evT t=(Q1 t).all ndN
 | .mk k n s ks=>by simp only[evT,Q1,List.all_cons,evL_all ks]
theorem evL_all: ∀ts:List Tm,evL ts=(allL ts).all ndN
 | []=>rfl
 | t:: ts=>by simp only[evL,allL,List.all_append,HP t,evL_all ts]
end
theorem GW (t:Tm) (bs:List (List AV)) (hm:t.mass < big) (ih: ∀x∈t.kids,∀bs,call F.tb 207 [.agg (Qb x),.fn 206 []] bs=some (.bool (evT x),bs)):
  ∀(post pre:List Tm) (ρ:Nat→AV),t.kids=pre ++ post→ρ 1= .fn 206 []→ρ 18= .sl false 4 (encTs t.kids)→ρ 19= .int .i64 t.kids.length→ρ 20= .int .i64 pre.length→
  R F.tb (.loop F.f207l0) ρ bs (Qi 0 (Qu F.tb F.f207r0 (Qy F.f207 bs)))=some (.bool (evL post),bs):=by
 have hm2:=Qr t;unfold big at hm;intro post
 induction post with
 | nil=>
  intro pre ρ hk h1 h18 h19 h20;simp only[List.append_nil]at hk;rw[← hk]at h20;rw[Qd F.f207l0.eq_1];simp[h1,h18,h19,h20,F.f207r0,evL]
 | cons x post IH=>
  intro pre ρ hk h1 h18 h19 h20;have hg:=QB hk;have hll:=QM hk;have hw1:=wr1 pre.length (by omega);have hlt:=QO hk;have hc:=ih x (by rw[hk];simp) bs;rw[Qd F.f207l0.eq_1];cases hb:evT x
  ·simp[h1,h18,h19,h20,hg,hlt,hc,hb,evL]
  ·have h2:=fun ρ=>IH (pre ++ [x]) ρ (by rw[hk];simp);simp[h1,h18,h19,h20,hg,hlt,hw1,hc,hb,evL];apply h2 <;> simp[h1,h18,h19]
theorem Qbq: ∀(t:Tm) (bs:List (List AV)),t.mass < big→call F.tb 207 [.agg (Qb t),.fn 206 []] bs=some (.bool (evT t),bs):=by
 refine ZU ?_;intro k n s ks ih bs hm;have hl:=fun ρ=>GW (.mk k n s ks) bs hm (fun x hx bs=>ih x hx bs (by have h1:x.mass≤massL ks:=QN hx;have:=Qr (.mk k n s ks);simp only[QX]at this;omega)) ks [] ρ rfl;have h2:=Qbp n bs;simp only[QX]at hl;rw[Qa F.tb_207 _ _ rfl,QdW];by_cases hk:k=3
 ·cases hd:WY n
  ·have e:ndN (.mk k n s ks)=true:=by simp[ndN,hd]
   rw[e];simp[F.f207C,hk,hd,h2];apply hl <;> simp
  ·have e:ndN (.mk k n s ks)=false:=by simp[ndN,hd,hk]
   rw[e];simp[F.f207C,hk,hd,h2]
 ·have e:ndN (.mk k n s ks)=true:=by simp[ndN,hk]
  rw[e];simp[F.f207C,hk];apply hl <;> simp
def Tv (t:Tm):Bool:=decide ((XS t).2=0) && decide (Qh (XS t).1 t=0) && evT t
theorem Qbb (t:Tm) (bs:List (List AV)) (hm:t.mass < big):call F.tb 173 [.agg (Qb t)] bs=some (.bool (Tv t),bs):=by
 have h1:=Qbc t bs hm;have hnm:=Fk t;have h2:=On (XS t).1 t bs (by unfold big;omega) hm;have h3:=Qbq t bs hm;simp only[ZO]at h1;rw[Qa F.tb_173 _ _ rfl];by_cases c1: (XS t).2=0
 ·by_cases c2:Qh (XS t).1 t=0
  ·simp[F.f173C,h1,h2,h3,c1,c2,Tv]
  ·simp[F.f173C,h1,h2,h3,c1,c2,Tv]
 ·simp[F.f173C,h1,c1,Tv]
def TD (c:UInt8):Bool:=decide (48≤c.toNat) && decide (c.toNat≤57)
def UE:List UInt8:=[48,49,50,51,52,53,54,55,56,57]
theorem BL: ∀d:Fin 256,UE.contains (UInt8.ofNat d.val)=TD (UInt8.ofNat d.val):=by decide
theorem BN (c:UInt8):UE.contains c=TD c:=by
 have h:=BL ⟨c.toNat,c.toNat_lt⟩;simp only[UInt8.ofNat_toNat]at h;exact h
theorem NN {p:UInt8→Bool}: ∀{l:List UInt8},l.dropWhile p=[]↔∀x∈l,p x=true
 | []=>by simp
 | a:: l=>by
  rw[List.dropWhile_cons];cases h:p a
  ·simp[h]
  ·simp[h,NN (l:=l)]
theorem Qaw (s:List UInt8): (Lib.trimS s UE == [])=s.all TD:=by
 have hp: (fun b=>UE.contains b)=TD:=funext BN;cases hs:s.all TD
 ·have hne:Lib.trimS s UE≠[]:=by
   intro e;unfold Lib.trimS Lib.trimLeftS Lib.trimRightS at e;rw[hp]at e;have h1:=NN.1 e;cases hw:s.reverse.dropWhile TD with
   | nil=>
    have h2:=NN.1 hw;have:s.all TD=true:=List.all_eq_true.2 fun x hx=>h2 x (by simpa using hx);rw[hs]at this;cases this
   | cons x r=>
    have h2:TD x=false:=by
     have:=List.head_dropWhile_not TD (l:=s.reverse) (by rw[hw];simp);simpa[hw]using this
    have h3:=h1 x (by rw[hw];simp);rw[h2]at h3;cases h3
  simpa using hne
 ·have:Lib.trimS s UE=[]:=by
   unfold Lib.trimS Lib.trimLeftS Lib.trimRightS;rw[hp];have:s.reverse.dropWhile TD=[]:=NN.2 fun x hx=>List.all_eq_true.1 hs x (by simpa using hx);rw[this];rfl
  simp[this]
def S8 (s:List UInt8):Bool:=match s with
 | 101:: 35:: c:: r=>(c:: r).all TD
 | _=>false
def Xa (t:Tm):Bool:=
 if t.kind=3 then(t.name == Xr || t.name == ONE) && decide (t.kids.length=0)
 else if t.kind=2 then(if t.sort=1∨t.sort=5 then true else if t.sort=4 then t.name == [103] || S8 t.name else if t.sort=0∨t.sort=2∨t.sort=3 then S8 t.name else false)
 else false
def Jb (s:List UInt8):Bool:= !(s == []) && s.all TD
theorem Qba (s:List UInt8) (bs:List (List AV)) (hs:s.length < 4294967281):call F.tb 163 [.str s] bs=some (.bool (Jb s),bs):=by
 have ht:call F.tb 164 [.str s,.str UE] bs=some (.str (Lib.trimS s UE),bs):=by
  rw[ZA F.tb_164];have hc: (UE.all (· < 128) && decide (s.length < 4294967281) && decide (UE.length < 4294967281))=true:=by
   rw[show UE.all (· < 128)=true from by decide];simp[hs,UE]
  simp only[Z2,Mo,hc,if_true];rfl
 have hn:=Qaw s;rw[Qa F.tb_163 _ _ rfl];simp only[UE]at ht hn;cases he:s == []
 ·simp[F.f163C,ht,hn,he,Jb,bne,-List.all_eq_true]
 ·simp[F.f163C,ht,hn,he,Jb,bne,-List.all_eq_true]
def XV (s:List UInt8):Bool:=decide (2≤s.length) && (s.take 2 == [101,35])
theorem QdL (s:List UInt8) (bs:List (List AV)):call F.tb 75 [.str s,.str [101,35]] bs=some (.bool (XV s),bs):=by
 rw[Qa F.tb_75 _ _ rfl];by_cases h:2≤s.length
 ·have h': (2:Int)≤(s.length:Int):=by omega
  simp[F.f75C,XV,h,h']
 ·have h': ¬(2:Int)≤(s.length:Int):=by omega
  simp[F.f75C,XV,h,h']
theorem QdK (s:List UInt8) (bs:List (List AV)):call F.tb 73 [.str s,.str [101,35]] bs=some (.tup [.str (if XV s then s.drop 2 else s),.bool (XV s)],bs):=by
 have h1:=QdL s bs;have h2:call F.tb 74 [.str s,.str [101,35]] bs=some (.tup [.str (if XV s then s.drop 2 else s),.bool (XV s)],bs):=by
  rw[Qa F.tb_74 _ _ rfl];cases hc:XV s
  ·simp[F.f74C,h1,hc]
  ·have hl:2≤s.length:=by simp[XV]at hc;exact hc.1
   have hl': (2:Int)≤(s.length:Int):=by omega
   simp[F.f74C,h1,hc,hl,hl']
 rw[Qa F.tb_73 _ _ rfl];generalize (if XV s then s.drop 2 else s)=w at *;simp[F.f73C,h2]
theorem QcQ (s:List UInt8): (XV s && Jb (if XV s then s.drop 2 else s))=S8 s:=by
 cases hc:XV s
 ·rw[Bool.false_and];unfold S8;split
  ·simp[XV]at hc
  ·rfl
 ·simp only[if_true,Bool.true_and]
  match s,hc with
  | [],hc=>simp[XV]at hc
  | [_],hc=>simp[XV]at hc
  | [a,b],hc=>
   simp[XV]at hc;obtain⟨rfl,rfl⟩:=hc;rfl
  | a:: b:: c:: r,hc=>
   simp[XV]at hc;obtain⟨rfl,rfl⟩:=hc;simp[Jb,S8]
theorem Qeu (x a b:List UInt8) (bs:List (List AV)):call F.tb 162 [.sl false 1 [[.str a],[.str b]],.str x] bs=some (.int .i64 (if x == a then 0 else if x == b then 1 else -1),bs):=by
 rw[Qa F.tb_162 _ _ rfl];simp[F.f162C];rw[Qd F.f162l0.eq_1];cases h1:x == a
 ·have g1: ¬x=a:=by simpa using h1
  simp[h1,g1];rw[Qd F.f162l0.eq_1];cases h2:x == b
  ·have hw:IntKind.i64.wrap 1=1:=rfl;have hw2:IntKind.i64.wrap 2=2:=rfl;have g2: ¬x=b:=by simpa using h2
   simp[h2,hw,hw2,g2];rw[Qd F.f162l0.eq_1];simp[F.f162r0]
  ·have hw:IntKind.i64.wrap 1=1:=rfl;have g2:x=b:=by simpa using h2
   simp[h2,hw,← g2]
 ·have g1:x=a:=by simpa using h1
  simp[h1,← g1]
theorem Qa9 (t:Tm) (bs:List (List AV)) (hk:t.kind=3):call F.tb 160 [.agg (Qb t),.sl false 1 [[.str Xr],[.str ONE]]] bs=some (.bool (t.name == Xr || t.name == ONE),bs):=by
 have h:=Qeu t.name Xr ONE bs;have h2:call F.tb 161 [.sl false 1 [[.str Xr],[.str ONE]],.str t.name] bs=some (.bool (t.name == Xr || t.name == ONE),bs):=by
  rw[Qa F.tb_161 _ _ rfl];cases h1:t.name == Xr
  ·cases h3:t.name == ONE <;> simp[h1,h3]at h <;> simp[F.f161C,h]
  ·simp[h1]at h;simp[F.f161C,h]
 rw[Qa F.tb_160 _ _ rfl];simp[F.f160C,hk,h2]
theorem Qa8 (t:Tm) (bs:List (List AV)) (hm:t.mass < 1000000):call F.tb 159 [.agg (Qb t)] bs=some (.bool (Xa t),bs):=by
 have hme:=Qr t;rw[Qa F.tb_159 _ _ rfl];by_cases hk:t.kind=3
 ·have h1:=Qa9 t bs hk;simp only[Xr,ONE]at h1;cases hz: (t.name == [122,101,114,111] || t.name == [111,110,101])
  ·rw[hz]at h1;simp[F.f159C,hk,h1,Xa,Xr,ONE,hz]
   try (simp at hz;simp[hz])
  ·rw[hz]at h1;by_cases hl:t.kids=[]
   ·simp[F.f159C,hk,h1,Xa,Xr,ONE,hz,hl]
   ·have hl0: ¬t.kids.length=0:=fun e=>hl (List.eq_nil_of_length_eq_zero e);have hl': ¬(t.kids.length:Int)=0:=by omega
    simp[F.f159C,hk,h1,Xa,Xr,ONE,hl,hl']
 ·by_cases hk2:t.kind=2
  ·have h1:=QdK t.name bs;have h2:=Qba (if XV t.name then t.name.drop 2 else t.name) bs (by
    split
    ·rw[List.length_drop];omega
    ·omega)
   have ho:=QcQ t.name;generalize (if XV t.name then t.name.drop 2 else t.name)=w at *;have hp:Xa t=if t.sort=1∨t.sort=5 then true else if t.sort=4 then t.name == [103] || S8 t.name else if t.sort=0∨t.sort=2∨t.sort=3 then S8 t.name else false:=by
    unfold Xa;rw[if_neg hk,if_pos hk2]
   rw[hp];generalize S8 t.name=O at *;by_cases s1:t.sort=1
   ·simp[F.f159C,hk2,h1,s1]
   ·by_cases s5:t.sort=5
    ·simp[F.f159C,hk2,h1,s5]
    ·by_cases s4:t.sort=4
     ·cases hg:t.name == [103]
      ·cases hcu:XV t.name
       ·rw[hcu]at h1 ho;simp at ho;subst ho;simp[F.f159C,hk2,h1,s4,hg]
       ·rw[hcu]at h1 ho;simp at ho;subst ho;simp[F.f159C,hk2,h1,h2,s4,hg]
      ·simp[F.f159C,hk2,h1,s4,hg]
     ·by_cases s0:t.sort=0∨t.sort=2∨t.sort=3
      ·cases hcu:XV t.name
       ·rw[hcu]at h1 ho;simp at ho;subst ho;rcases s0 with s0 | s0 | s0 <;> simp[F.f159C,hk2,h1,s0]
       ·rw[hcu]at h1 ho;simp at ho;subst ho;rcases s0 with s0 | s0 | s0 <;> simp[F.f159C,hk2,h1,h2,s0]
      ·simp only[not_or]at s0;simp[F.f159C,hk2,h1,s1,s5,s4,s0.1,s0.2.1,s0.2.2]
  ·have hp:Xa t=false:=by unfold Xa;rw[if_neg hk,if_neg hk2]
   rw[hp];simp[F.f159C,hk,hk2]
def YY (x:Tm):Int:=if thV x≠0 then thV x else if Tl x≠[]then 13 else if Tv x then 0 else 10
def VX:List Tm→Int
 | []=>0
 | x:: r=>if YY x≠0 then YY x else VX r
def TS (B0 B:List (List AV)) (v:AV) (l:List Tm):Prop:=∃(M:List (List AV)) (id sz:Nat),B=B0 ++ M∧v= .gs id 0 sz l.length∧
 ((sz=0∧id=0∧l=[])∨(sz=4∧B0.length≤id∧l≠[]∧B[id]? =some (Qf l)))
theorem Ki {B0 B:List (List AV)} {v:AV} {l:List Tm} (h:TS B0 B v l): ∃id sz,v= .gs id 0 sz l.length:=by
 obtain⟨M,id,sz,_,rfl,_⟩:=h;exact⟨id,sz,rfl⟩
theorem QeX (B0:List (List AV)):TS B0 B0 (.gs 0 0 0 0) []:=⟨[],0,0,by simp,rfl,.inl ⟨rfl,rfl,rfl⟩⟩
theorem Aj {l:List Tm} {M:Nat} (h: ∀x∈l,x.mass≤M):massL l≤l.length*M:=by
 induction l with
 | nil=>simp[massL]
 | cons x xs ih=>
  have h1:=ih fun y hy=>h y (by simp[hy]);have h2:=h x (by simp);simp only[massL,List.length_cons,Nat.succ_mul];omega
def Qgj (i:Nat):Tm:= .mk 1 (119:: ZN i) 0 []
theorem CU (l:List Tm) (g:Nat) (cs:List AV) (p:Tm→Bool) (bs:List (List AV)) (hl:l.length < 1000000) (hcs: ∀x∈cs,x.ok=true) (hp: ∀x∈l,call F.tb g (.agg (Qb x):: cs) bs=some (.bool (p x),bs)):
  ∀(post pre:List Tm) (o:Bool) (ρ:Nat→AV),l=pre ++ post→pre.any p=false→ρ 0= .sl o 4 (encTs l)→ρ 1= .fn g cs→ρ 7= .int .i64 l.length→ρ 8= .int .i64 pre.length→
  Mt (l.any p) bs (R F.tb (.loop F.f215l0) ρ bs (Qi 0 (Qu F.tb F.f215r0 (Qy F.f215 bs)))):=by
 intro post
 induction post with
 | nil=>
  intro pre o ρ hk hpp h0 h1 h7 h8;simp only[List.append_nil]at hk;rw[← hk]at h8 hpp;rw[Qd F.f215l0.eq_1];refine⟨-1,?_,by rw[hpp];simp⟩;simp[h0,h1,h7,h8,F.f215r0]
 | cons x post IH=>
  intro pre o ρ hk hpp h0 h1 h7 h8;have hgt:=QB hk;have hll:=QM hk;have hw1:=wr1 pre.length (by omega);have hlt:=QO hk;have hcall:=hp x (by rw[hk];simp);have hcs2: (∀(x:AV),x∈cs→x.ok=true)=True:=eq_true hcs;have ih:=fun ρ hpp=>IH (pre ++ [x]) o ρ (by rw[hk];simp) hpp;rw[Qd F.f215l0.eq_1];cases ho:p x
  ·have ih2:=fun ρ=>ih ρ (by rw[List.any_append,hpp];simp[ho]);simp[h0,h1,h7,h8,hlt,hgt,hw1,hcall,hcs2,ho,-List.any_eq_false,-List.any_eq_true];apply ih2 <;> simp[h0,h1,h7]
  ·have hany:l.any p=true:=List.any_eq_true.2 ⟨x,by rw[hk];simp,ho⟩;refine⟨pre.length,?_,by rw[hany];simp⟩;simp[h0,h1,h7,h8,hlt,hgt,hcall,hcs2,ho]
theorem C6 (l:List Tm) (g:Nat) (cs:List AV) (p:Tm→Bool) (o:Bool) (bs:List (List AV)) (hl:l.length < 1000000) (hcs: ∀x∈cs,x.ok=true) (hp: ∀x∈l,call F.tb g (.agg (Qb x):: cs) bs=some (.bool (p x),bs)):
  call F.tb 214 [.sl o 4 (encTs l),.fn g cs] bs=some (.bool (l.any p),bs):=by
 have h1:=fun ρ=>CU l g cs p bs hl hcs hp l [] false ρ rfl rfl;have hcs2: (∀(x:AV),x∈cs→x.ok=true)=True:=eq_true hcs;have h2:Mt (l.any p) bs (call F.tb 215 [.sl false 4 (encTs l),.fn g cs] bs):=by
  rw[Qa F.tb_215 _ _ rfl];simp[F.f215C,hcs2,-List.any_eq_false,-List.any_eq_true];apply h1 <;> simp
 obtain⟨i,hi,hb⟩:=h2;rw[Qa F.tb_214 _ _ rfl];simp[F.f214C,hi,hcs2,-List.any_eq_false,-List.any_eq_true];cases hx:l.any p
 ·rw[hx]at hb;simp at hb;simpa using hb
 ·rw[hx]at hb;simp at hb;simpa using hb
def hbs:Nat→List Tm→List (List AV)
 | _,[]=>[]
 | k,t:: ts=>(Qb (Qgj k)++ Qb t):: hbs (k+1) ts
theorem M3 (t:Tm):t∈Q1 t:=by cases t;simp[Q1]
end Go.Am
