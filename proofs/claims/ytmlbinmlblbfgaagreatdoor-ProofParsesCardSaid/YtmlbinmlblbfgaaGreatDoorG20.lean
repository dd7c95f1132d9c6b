/-
  Pf37, Pf38, Pf55, Pf39, Pf40, Pf41, Pf42, Pf43, Pf44, Pf45, Pf46, Pf47, Pf48, Pf49, Pf51, Pf56, Pf57.
-/
import Derived.Test.YtmlbinmlblbfgaaGreatDoorG19
set_option linter.all false
open Go.Am.F
namespace Go.Am
set_option maxRecDepth 20000
def IJ {n:Qb} (h:Q4 n=true):0 < n.length:=by
 cases n with
 | nil=>simp[Q4]at h
 | cons c r=>simp
def LM {k:Nat} {r r1 n r2:Qb} (h1: (if pfx [63] r then r.drop 1 else r)=r1) (hn:nmW r1=n) (h2:r1.drop n.length=r2):pT (k+1) r=
  if Q4 n=false then(.mk 0 [] 0 [],r2,false)
  else if pfx [63] r then(if pfx [58] r2 then(.mk 1 n (pS 1 r2).1 [],(pS 1 r2).2.1,(pS 1 r2).2.2)else(.mk 1 n 0 [],r2,true))
  else if pfx [40] r2 then pL k n [] (r2.drop 1)
  else(.mk 2 n (pS 0 r2).1 [],(pS 0 r2).2.1,(pS 0 r2).2.2):=by
 subst h1 hn h2;rw[pT]
def QbA {B:Qd} {id:Nat} (hid:id < B.length) (s:Qb) (hs:s.length < 1000000) (a:Nat) (ha:a<=s.length) (ls:Int):
  ∃a',call tb 654 [.gp id 0,.int .i64 ls] (st B id s a)=some (.tup [.int .i64 (pS ls (s.drop a)).1,.bool (pS ls (s.drop a)).2.2],st B id s a')/\(pS ls (s.drop a)).2.1=s.drop a'/\a'<=s.length/\a<=a':=by
 have c:=Qb8 hid s hs a ha ls;unfold pS;cases hp:pfx [58] (s.drop a)
 ·rw[hp]at c;simp only[Zo,QC]at c ⊢;exact⟨a,c,rfl,ha,Za _⟩
 ·rw[hp]at c;have ha1:=IP hp;have hnl:=S2 (s.drop (a+1));rw[YN]at hnl;simp only[QF,TZ]at c ⊢;exact⟨_,c,rfl,by omega,by omega⟩
def Qdv (s:Qb) (hs:s.length < 1000000) (id k:Nat) (hL:G1 s id k):Ah s id (k+1):=by
 intro B a hid ha hk;have c1:=SR hid s a [63] ha hs (by decide);simp only[QO,QX,QP]at c1;obtain⟨a1,ha1,hr1,haa,hst1⟩: ∃a1,a1<=s.length/\(if pfx [63] (s.drop a)then(s.drop a).drop 1 else s.drop a)=s.drop a1/\a<=a1/\(if pfx [63] (s.drop a)then a+1 else a)=a1:=by
  cases hp:pfx [63] (s.drop a)
  ·exact⟨a,ha,rfl,Za _,rfl⟩
  ·exact⟨a+1,IP hp,by rw[Qh rfl,TZ],by omega,rfl⟩
 rw[hst1]at c1;have c2:=Qb7 hid s hs a1 ha1;have hnl:=S2 (s.drop a1);rw[YN]at hnl;have hrd: (s.drop a1).drop (nmW (s.drop a1)).length=s.drop (a1+ (nmW (s.drop a1)).length):=by rw[TZ]
 generalize hn:nmW (s.drop a1)=n at *;have ha2:a1+n.length<=s.length:=by omega
 generalize ha2':a1+n.length=a2 at *;rw[LM hr1 hn hrd];have hg:=Vg hid s a2;cases hnm:Q4 n
 ·rw[hnm]at c2;rw[Qh rfl];refine⟨a2,?_,rfl,ha2,by omega,fun h=>by cases h⟩;rw[zcc 650 rfl rfl];simp[-getElem?_pos,Qr,Qv,f650C,c1,c2,X0,Ql,Qz]
 ·rw[hnm]at c2;have hpos:=IJ hnm;rw[Qe (by simp)];cases hv:pfx [63] (s.drop a)
  ·rw[hv]at c1;rw[Qe (by simp)];have c3:=SR hid s a2 [40] ha2 hs (by decide);cases hq:pfx [40] (s.drop a2)
   ·rw[hq]at c3;rw[Qe (by simp)];simp only[Zo,QC]at c3;obtain⟨a3,d1,d2,d3,d4⟩:=QbA hid s hs a2 ha2 0;generalize pS 0 (s.drop a2)=p at *;obtain⟨i,r,ok⟩:=p;simp only at d1 d2 ⊢;refine⟨a3,?_,d2,d3,by omega,fun _=>by omega⟩;rw[zcc 650 rfl rfl];simp[-getElem?_pos,Qr,Qv,f650C,c1,c2,c3,d1,X0,Ql,Qz]
   ·rw[hq]at c3;have ha3:=IP hq;rw[Qh rfl];simp only[QF,QO,QX,QP]at c3;rw[TZ];generalize hq3:a2+1=a3 at *;have hI:=fun ρ=>hL B n [] a3 a ρ hid ha3 (by omega) (by simp);rw[zcc 650 rfl rfl];simp[-getElem?_pos,Qr,Qv,f650C,c1,c2,c3];refine(hI _ ?_ ?_ ?_).imp fun a' h=>⟨h.1,h.2.1,h.2.2.1,by have:=h.2.2.2;omega,fun _=>by have:=h.2.2.2;omega⟩ <;> simp[Qz]
  ·rw[hv]at c1;rw[Qh rfl];have hc58:pfx [58] (s.drop a2)=decide (s[a2]? =some 58):=Qar;cases hq:pfx [58] (s.drop a2)
   ·rw[hq]at hc58;rw[Qe (by simp)];refine⟨a2,?_,rfl,ha2,by omega,fun _=>by omega⟩;rw[zcc 650 rfl rfl];by_cases hlt:a2 < s.length
    ·obtain⟨c,hc⟩: ∃c,s[a2]? =some c:=⟨_,Zr hlt⟩;have hne: ¬((c.toNat:Int)=58):=by
      intro e;have:c=58:=Pe.1 (by simpa using Int.ofNat.inj e);rw[this]at hc;rw[hc]at hc58;simp at hc58
     simp[-getElem?_pos,Qr,Qv,f650C,c1,c2,hg,hlt,hc,hne,X0,Ql,Qz]
    ·simp[-getElem?_pos,Qr,Qv,f650C,c1,c2,hg,hlt,X0,Ql,Qz]
   ·have hlt:=IP hq;have hlt':a2 < s.length:=by omega
    rw[Qh rfl];rw[hq]at hc58;have hc:s[a2]? =some 58:=by simpa using hc58.symm
    obtain⟨a3,d1,d2,d3,d4⟩:=QbA hid s hs a2 ha2 1;generalize pS 1 (s.drop a2)=p at *;obtain⟨i,r,ok⟩:=p;simp only at d1 d2 ⊢;refine⟨a3,?_,d2,d3,by omega,fun _=>by omega⟩;rw[zcc 650 rfl rfl];simp[-getElem?_pos,Qr,Qv,f650C,c1,c2,hg,hlt',hc,d1,X0,Ql,Qz]
def Bg (s:Qb) (hs:s.length < 1000000) (id:Nat): ∀k,Ah s id k/\G1 s id k
 | 0=>⟨fun B a _ _ h=>by omega,fun B n l a f0 ρ _ _ h=>by omega⟩
 | k+1=>by
  obtain⟨h1,h2⟩:=Bg s hs id k;exact⟨Qdv s hs id k h2,Qds s hs id k h1 h2⟩
def Qbz (ls:Int) (r:Qb): (pS ls r).2.1.length<=r.length:=by
 unfold pS;split
 ·simp only[YN];omega
 ·exact Za _
def MT1 (k:Nat):Prop:=∀r,(pT k r).1.mass+3* (pT k r).2.1.length<=3*r.length+1/\((pT k r).2.2=true->(pT k r).1.mass+1+3* (pT k r).2.1.length<=3*r.length)
def ML1 (k:Nat):Prop:=∀n l r,(pL k n l r).1.mass+3* (pL k n l r).2.1.length<=1+n.length+l.length+Zs l+3*r.length
def Mx {p r:Qb} (h:pfx p r=true):p.length<=r.length:=by
 simp only[pfx,Qi,Qm]at h;exact h.1
def Qc9 (k:Nat) (hT:MT1 k) (hL:ML1 k):ML1 (k+1):=by
 intro n l r;simp only[pL];cases hp:pfx [41] r
 ·simp only[Zo,QC];by_cases hc:l≠[]/\pfx [44,32] r=false
  ·rw[Qh hc];simp[Tm.mass]
  ·rw[Qe hc];have h1:=hT (if l=[]then r else r.drop 2);have h2: (if l=[]then r else r.drop 2).length<=r.length:=by split <;> simp
   generalize pT k (if l=[]then r else r.drop 2)=p at *;obtain⟨t,r2,ok⟩:=p;simp only at h1 ⊢;cases ok
   ·simp only[QF,Tm.mass];omega
   ·simp only[YW,QC];have h3:=hL n (l ++ [t]) r2;have h4:=h1.2 rfl;simp only[Zf,QO,QX,PM,Zs]at h3;omega
 ·simp only[QF,Tm.mass,YN];omega
def Qdb (k:Nat) (hL:ML1 k):MT1 (k+1):=by
 intro r;rw[LM (r:=r) rfl rfl rfl];have h1: (if pfx [63] r then r.drop 1 else r).length<=r.length:=by split <;> simp
 generalize (if pfx [63] r then r.drop 1 else r)=r1 at *;have h2:=S2 r1;generalize nmW r1=n at *;have h3: (r1.drop n.length).length=r1.length - n.length:=YN;generalize r1.drop n.length=r2 at *;cases hn:Q4 n
 ·simp only[QF];refine⟨?_,fun h=>by cases h⟩;simp[Tm.mass,Zs];omega
 ·have hpos:=IJ hn;simp only[YW,QC];cases hv:pfx [63] r
  ·simp only[Zo,QC];cases hq:pfx [40] r2
   ·simp only[Zo,QC];have h4:=Qbz 0 r2;simp only[Tm.mass,Zs,QX];omega
   ·simp only[QF];have h4:=Mx hq;have h5:=hL n [] (r2.drop 1);simp only[YN,QX,Zs,QO]at h5 h4;omega
  ·simp only[QF];cases hq:pfx [58] r2
   ·simp only[Zo,QC,Tm.mass,Zs,QX];omega
   ·simp only[QF];have h4:=Qbz 1 r2;simp only[Tm.mass,Zs,QX];omega
def NP: ∀k,MT1 k/\ML1 k
 | 0=>⟨fun r=>by simp[pT,Tm.mass,Zs];omega,fun n l r=>by simp[pL,Tm.mass]⟩
 | k+1=>⟨Qdb k (NP k).2,Qc9 k (NP k).1 (NP k).2⟩
def prT (s:Qb):Tm×Int:=
 let p:=pT (2*s.length+1) s
 if p.2.2=false\/p.2.1≠[]then(.mk 0 [] 0 [],2)else if QZ p.1≠0 then(.mk 0 [] 0 [],QZ p.1)else(p.1,0)
def Jw:=@List.set_append_right
def Qb5 (s:Qb) (hs:s.length < 1000000) (B:Qd):call tb 649 [.str s] B=some (.tup [.agg (Ql (prT s).1),.int .i64 (prT s).2],B):=by
 have hid:B.length < (B ++ [[AV.str s,.int .i64 0]]).length:=by simp
 have hst:B ++ [[AV.str s,.int .i64 0]]=st (B ++ [[AV.str s,.int .i64 0]]) B.length s 0:=by
  unfold st;rw[Jw _ _ (Za _)];simp
 obtain⟨a',c1,c2,c3,c4,c5⟩:=(Bg s hs B.length (2*s.length+1)).1 (B ++ [[AV.str s,.int .i64 0]]) 0 hid (Te _) (by omega);have hM:=(NP (2*s.length+1)).1 s;simp only[XK]at c1 c2;rw[<- hst]at c1;have hg:=Vg hid s a';have htk:List.take B.length (st (B ++ [[AV.str s,.int .i64 0]]) B.length s a')=B:=by
  unfold st;rw[Jw _ _ (Za _)];simp
 unfold prT;generalize pT (2*s.length+1) s=p at *;obtain⟨t,r,ok⟩:=p;simp only at c1 c2 hM ⊢;have hr: (r≠[])↔a' < s.length:=by
  rw[c2];constructor
  ·intro h;rcases QL a' s.length with h1 | h1
   ·exact h1
   ·exact absurd (List.drop_eq_nil_of_le h1) h
  ·intro h e;have:=Xb List.length e;simp at this;omega
 have c6:=Nw t (st (B ++ [[AV.str s,.int .i64 0]]) B.length s a') (by unfold big;omega);rw[zcc 649 rfl rfl];cases ok
 ·rw[Qh (.inl rfl)];simp[-getElem?_pos,Qr,Qv,f649C,c1,Ql,Qz,htk]
 ·by_cases hlt:a' < s.length
  ·rw[Qh (.inr (hr.2 hlt))];simp[-getElem?_pos,Qr,Qv,f649C,c1,hg,hlt,Ql,Qz,htk]
  ·rw[Qe (by rw[hr];simp[hlt])];by_cases hv:QZ t=0
   ·rw[Qe (by simp[hv])];simp[-getElem?_pos,Qr,Qv,f649C,c1,hg,hlt,c6,hv,htk]
   ·rw[Qh hv];simp[-getElem?_pos,Qr,Qv,f649C,c1,hg,hlt,c6,hv,Ql,Qz,htk]
def H4 (s:Qb) (hs:s.length < 1000000) (bs:Qd):call tb 155 [.str s] bs=some (.str (nmW s),bs):=by
 have fin: ∀(e:Nat) (ρ:Qq),e<=s.length->ρ 0= .str s->ρ 3= .int .i64 e->R tb f155r0 ρ bs (Zn f155 bs)=some (.str (s.take e),bs):=by
  intro e ρ h1 h0 h3;simp[f155r0,h0,h3,h1]
 have hL: ∀(r pre:Qb) (ρ:Qq),s=pre ++ r->ρ 0= .str s->ρ 3= .int .i64 pre.length->
   R tb (.loop f155l0) ρ bs (Q1 0 (ZE tb f155r0 (Zn f155 bs)))=some (.str (s.take (pre.length+ (nmW r).length)),bs):=by
  intro r
  induction r with
  | nil=>
   intro pre ρ hk h0 h3;simp at hk;have hF:=fin pre.length;rw[Qo f155l0.eq_1];have hlt: ¬pre.length < s.length:=by rw[hk];omega
   have hlt': ¬(pre.length:Int) < (s.length:Int):=by omega
   simp[h0,h3,hlt,hlt',nmW];rw[hF] <;> simp[h0,h3,hk]
  | cons c r IH=>
   intro pre ρ hk h0 h3;have hl:s.length=pre.length+ (r.length+1):=by rw[hk];simp
   have hgc:s[pre.length]? =some c:=ZM hk;have hlt: (pre.length:Int) < (s.length:Int):=by omega
   have hlt':pre.length < s.length:=by omega
   have hw:IntKind.i64.wrap ((pre.length:Int)+1)=(pre.length:Int)+1:=Q2 (by omega) (by omega);have hF:=fin pre.length;rw[Qo f155l0.eq_1];cases hp:ZW c
   ·have hn:nmW (c:: r)=[]:=by simp[nmW,hp]
    rw[hn];rw[WC]at hp;simp only[Ud]at hp;obtain⟨⟨⟨p1,p2⟩,p3⟩,p4⟩:=hp;have p3': ¬c.toNat=95:=by simpa using p3
    have p4': ¬c.toNat=35:=by simpa using p4
    simp[-getElem?_pos,Qr,Qv,h0,h3,hgc,hlt,hlt',X4,Vm,p1,p2,p3',p4',Po,Pn];rw[hF] <;> first | omega | simp[h0,h3]
   ·have hn:nmW (c:: r)=c:: nmW r:=by simp[nmW,hp]
    have hI:=IH (pre ++ [c]);simp only[Zf,QO,QX,QP]at hI;rw[hn,QO,show pre.length+ ((nmW r).length+1)=pre.length+1+ (nmW r).length by omega];rw[WC]at hp;by_cases p3:c.toNat=95
    ·have h95: ((c.toNat:Int)=95)=True:=eq_true (by omega);have h35: ((c.toNat:Int)=35)=False:=eq_false (by omega);cases p1:Wg c <;> cases p2:Z4 c <;> (simp[-getElem?_pos,Qr,Qv,h0,h3,hgc,hlt,hlt',X4,Vm,hw,h95,h35,p1,p2];rw[hI] <;> first | omega | simp[h0,h3,hk])
    ·have h95: ((c.toNat:Int)=95)=False:=eq_false (by omega);by_cases p4:c.toNat=35
     ·have h35: ((c.toNat:Int)=35)=True:=eq_true (by omega);cases p1:Wg c <;> cases p2:Z4 c <;> (simp[-getElem?_pos,Qr,Qv,h0,h3,hgc,hlt,hlt',X4,Vm,hw,h95,h35,p1,p2];rw[hI] <;> first | omega | simp[h0,h3,hk])
     ·have h35: ((c.toNat:Int)=35)=False:=eq_false (by omega);cases p1:Wg c <;> cases p2:Z4 c
      ·exfalso;simp[p1,p2,p3,p4]at hp
      all_goals (simp[-getElem?_pos,Qr,Qv,h0,h3,hgc,hlt,hlt',X4,Vm,hw,h95,h35,p1,p2];rw[hI] <;> first | omega | simp[h0,h3,hk])
 have h1:=hL s [];rw[zcc 155 rfl rfl];simp[f155C];rw[h1] <;> simp[RA]
def lfI (w:Qb) (kd:Int):Nat->Int->Option Int
 | 0,_=>none
 | m+1,i=>if w=wrd i/\(i≠0\/kd=2)then some i else lfI w kd m (i+1)
def rLf (k:Int) (n s:Qb):Tm×Qb×Bool:=
 if pfx [58] s=false then(.mk k n 0 [],s,decide (k=1))else match lfI (nmW (s.drop 1)) k 6 0 with
  | some i=>(.mk k n i [],(s.drop 1).drop (nmW (s.drop 1)).length,true)
  | none=>(.mk k n 0 [],s,false)
def Cs:=@Decidable.not_not
def C2 (kd:Int) (n s w:Qb) (hs:s.length < 1000000) (hw:w.length+1<=s.length) (bs:Qd):
  ∀(m:Nat) (i:Int) (ρ:Qq),i+m=6->0<=i->ρ 1= .str s->ρ 2= .bx (Ql (.mk kd n 0 []))->ρ 4= .bx [.int .i64 0,.str [],.int .i64 0,.sl true 4 []]->ρ 7= .str w->ρ 8= .int .i64 i->
  R tb (.loop f156l0) ρ bs (Q1 0 (ZE tb f156r0 (Zn f156 bs)))=match lfI w kd m i with
   | some j=>some (.tup [.agg (Ql (.mk kd n j [])),.str (s.drop (w.length+1)),.bool true],bs)
   | none=>some (.tup [.agg (Ql (.mk kd n 0 [])),.str s,.bool false],bs):=by
 intro m
 induction m with
 | zero=>
  intro i ρ hi h0 h1 h2 h4 h7 h8;have hi6:i=6:=by omega
  subst hi6;rw[Qo f156l0.eq_1];simp[h1,h2,h4,h7,h8,lfI,Ql,Qz,f156r0]
 | succ m ih=>
  intro i ρ hi h0 h1 h2 h4 h7 h8;have c:=JX i bs h0 (by omega);have hle:i<=5:=by omega
  have hwi:IntKind.i64.wrap (i+1)=i+1:=Q2 (by omega) (by omega);have hwl:IntKind.i64.wrap (1+ (w.length:Int))=((w.length+1:Nat):Int):=by rw[Q2 (by omega) (by omega)];omega
  rw[Qo f156l0.eq_1];simp only[lfI];by_cases hq:w=wrd i
  ·by_cases hc:i≠0\/kd=2
   ·rw[Qh ⟨hq,hc⟩];rw[<- hq]at c;generalize hq1:w.length+1=q at *;by_cases hi0:i=0
    ·have hk2:kd=2:=by rcases hc with hc | hc;exact absurd hi0 hc;exact hc
     subst hi0;simp[h1,h2,h4,h7,h8,Ql,Qz,hle,c,hk2,hwl,hw]
    ·simp[h1,h2,h4,h7,h8,Ql,Qz,hle,c,hi0,hwl,hw]
   ·rw[Qe (fun h=>hc h.2)];rw[<- hq]at c;simp only[ne_eq,Vc,Cs]at hc;obtain⟨hi0,hk2⟩:=hc;subst hi0;simp[h1,h2,h4,h7,h8,Ql,Qz,hle,c,hk2,(show IntKind.i64.wrap 1=1 by decide)];rw[ih 1] <;> first | omega | simp[h1,h2,h4,h7,Ql,Qz]
  ·rw[Qe (fun h=>hq h.1)];have hq2: (w == wrd i)=false:=by simpa using hq
   simp[h1,h2,h4,h7,h8,Ql,Qz,hle,c,hq,hq2,hwi];rw[ih (i+1)] <;> first | omega | simp[h1,h2,h4,h7,Ql,Qz]
def QbS (kd:Int) (n s:Qb) (hs:s.length < 1000000) (bs:Qd):call tb 156 [.agg (Ql (.mk kd n 0 [])),.str s] bs=some (.tup [.agg (Ql (rLf kd n s).1),.str (rLf kd n s).2.1,.bool (rLf kd n s).2.2],bs):=by
 rw[zcc 156 rfl rfl];unfold rLf;cases s with
 | nil=>
  rw[Qh (by simp[pfx])];by_cases hk:kd=1 <;> simp[f156C,Ql,Qz,hk]
 | cons c r=>
  by_cases hc:c=58
  ·subst hc;have hp:pfx [58] (58:: r)=true:=by simp[pfx]
   simp only[QO]at hs;have c1:=H4 r (by omega) bs;have hnl:=S2 r;rw[Qe (by simp[hp])];simp only[WZ,XK];generalize nmW r=w at *;have hL:=C2 kd n (58:: r) w (by simp;omega) (by simp;omega) bs 6 0;simp only[WZ]at hL;have hl0: ¬((r.length:Int)+1=0):=by omega
   have hl1: (1:Int)<=(r.length:Int)+1:=by omega
   simp[f156C,c1,hl0,hl1];rw[hL] <;> first | (simp[Ql,Qz];done) | skip
   cases lfI w kd 6 0 <;> rfl
  ·have hp:pfx [58] (c:: r)=false:=by simp[pfx,hc]
   have hne: ¬((c.toNat:Int)=58):=by
    intro e;exact hc (Pe.1 (by simpa using Int.ofNat.inj e))
   rw[Qh hp];have hl0: ¬((r.length:Int)+1=0):=by omega
   by_cases hk:kd=1 <;> simp[f156C,Ql,Qz,hk,hne,hl0]
def Yz (t:Qb):Qb->Option (Qb×Qb)
 | []=>if t.isEmpty then some ([],[])else none
 | b:: l=>if t.isPrefixOf (b:: l)then some ([],(b:: l).drop t.length)else(Yz t l).map fun p=>(b:: p.1,p.2)
def Js:=@List.isPrefixOf_iff_prefix
def VY (t:Qb): ∀s:Qb,(Yz t s=none/\Lib.index s t= -1)\/∃p q,Yz t s=some (p,q)/\Lib.index s t=(p.length:Int)/\s=p ++ (t ++ q)
 | []=>by
  unfold Yz Lib.index;by_cases h:t.isEmpty=true
  ·right;rw[Qh h,Qh h];exact⟨[],[],rfl,rfl,by simpa using h⟩
  ·left;rw[Qe h,Qe h];exact⟨rfl,rfl⟩
 | b:: l=>by
  unfold Yz Lib.index;by_cases h:t.isPrefixOf (b:: l)=true
  ·right;rw[Qh h,Qh h];obtain⟨q,hq⟩:=Js.1 h;exact⟨[],q,by rw[<- hq];simp,rfl,by rw[<- hq];simp⟩
  ·rw[Qe h,Qe h];rcases VY t l with⟨h1,h2⟩ | ⟨p,q,h1,h2,h3⟩
   ·left;rw[h1,h2];exact⟨rfl,rfl⟩
   ·right;rw[h1,h2];refine⟨b:: p,q,rfl,?_,by rw[h3];rfl⟩;rw[Qe (by simp)];simp
def H6 (s t:Qb) (bs:Qd) (hs:s.length < 4294967281):call tb 484 [.str s,.str t] bs=some (.int .i64 (Lib.index s t),bs):=by
 rw[Wu tb_484];simp[ZG,ixO,hs]
def QM (t s:Qb):Qb×Qb×Bool:=match Yz t s with
 | some (p,q)=>(p,q,true)
 | none=>(s,[],false)
def Qb4 (s t:Qb) (bs:Qd) (hs:s.length < 1000000) (ht:t.length < 1000000):call tb 648 [.str s,.str t] bs=some (.tup [.str (QM t s).1,.str (QM t s).2.1,.bool (QM t s).2.2],bs):=by
 have c:=H6 s t bs (by omega);rw[zcc 648 rfl rfl];unfold QM;rcases VY t s with⟨h1,h2⟩ | ⟨p,q,h1,h2,h3⟩
 ·rw[h2]at c;rw[h1];simp[f648C,c]
 ·rw[h2]at c;rw[h1];have hl:s.length=p.length+ (t.length+q.length):=by rw[h3];simp
  have hw:IntKind.i64.wrap ((p.length:Int)+ (t.length:Int))=((p.length+t.length:Nat):Int):=by rw[Q2 (by omega) (by omega)];omega
  have e1:s.take p.length=p:=by rw[h3];simp
  have e2:s.drop (p.length+t.length)=q:=by rw[h3,<- XP];simp
  have hle1:p.length<=s.length:=by omega
  have hle2:p.length+t.length<=s.length:=by omega
  generalize p.length+t.length=m at *;simp[f648C,c,hw,hle1,hle2,e1,e2]
def H9 (s t:Qb) (bs:Qd) (hs:s.length < 1000000) (ht:t.length < 1000000):call tb 647 [.str s,.str t] bs=some (.tup [.str (QM t s).1,.str (QM t s).2.1,.bool (QM t s).2.2],bs):=by
 have c:=Qb4 s t bs hs ht;generalize QM t s=p at *;obtain⟨a,b,d⟩:=p;rw[zcc 647 rfl rfl];simp[f647C,c]
def sfx (t s:Qb):Bool:=decide (t.length<=s.length) && s.drop (s.length - t.length) == t
def Qb1 (s t:Qb) (bs:Qd) (hs:s.length < 1000000) (ht:t.length < 1000000):call tb 640 [.str s,.str t] bs=some (.bool (sfx t s),bs):=by
 rw[zcc 640 rfl rfl];unfold sfx;by_cases h:t.length<=s.length
 ·have hw:IntKind.i64.wrap ((s.length:Int) - (t.length:Int))=((s.length - t.length:Nat):Int):=by rw[Q2 (by omega) (by omega)];omega
  have hle:s.length - t.length<=s.length:=by omega
  generalize hm:s.length - t.length=m at *;simp[f640C,h,hw,hle]
 ·simp[f640C,h]
def Qb0 (s t:Qb) (bs:Qd) (hs:s.length < 1000000) (ht:t.length < 1000000):call tb 639 [.str s,.str t] bs=some (.bool (sfx t s),bs):=by
 have c:=Qb1 s t bs hs ht;rw[zcc 639 rfl rfl];simp[f639C,c]
def Zd (c:UInt8):Qb->X3
 | []=>[[]]
 | b:: l=>if b=c then []:: Zd c l else match Zd c l with
  | []=>[[b]]
  | p:: ps=>(b:: p):: ps
def Lk (c b:UInt8) (l:Qb):Zd c (b:: l)=if b=c then []:: Zd c l else match Zd c l with
  | []=>[[b]]
  | p:: ps=>(b:: p):: ps:=by rw[Zd]
def Oa (c:UInt8): ∀s,Zd c s≠[]
 | []=>by simp[Zd]
 | b:: l=>by
  unfold Zd;split
  ·simp
  ·split <;> simp
def Sk (c b:UInt8) (l:Qb):Yz [c] (b:: l)=if b=c then some ([],l)else(Yz [c] l).map fun p=>(b:: p.1,p.2):=by
 rw[Yz];by_cases h:b=c
 ·simp[h]
 ·have h2: (c == b)=false:=by simpa using fun e=>h e.symm
  simp[h,List.isPrefixOf,h2]
def WE (c:UInt8): ∀s,(Yz [c] s=none->Zd c s=[s])/\(∀p q,Yz [c] s=some (p,q)->Zd c s=p:: Zd c q)
 | []=>by simp[Yz,Zd]
 | b:: l=>by
  obtain⟨h1,h2⟩:=WE c l;rw[Sk,Lk];by_cases h:b=c
  ·simp only[h,QF];refine⟨fun e=>(by cases e),fun p q e=> ?_⟩;injection e with e
   injection e with e1 e2
   subst e1 e2;rfl
  ·simp only[h,QC];cases hc:Yz [c] l with
   | none=>simp[h1 hc]
   | some x=>
    obtain⟨p,q⟩:=x;rw[h2 p q hc];simp only[QA];refine⟨fun e=>(by cases e),fun p' q' e=> ?_⟩;injection e with e
    injection e with e1 e2
    subst e1 e2;rfl
def VW (c:UInt8): ∀s:Qb,s.count c+1=(Zd c s).length
 | []=>by simp[Zd]
 | b:: l=>by
  have ih:=VW c l;have hne:=Oa c l;unfold Zd;by_cases h:b=c
  ·simp[h,ih]
  ·rw[Qe h,List.count_cons_of_ne h,ih];cases hs:Zd c l with
   | nil=>exact absurd hs hne
   | cons p ps=>simp
def QbZ (s t:Qb) (bs:Qd) (hs:s.length < 1000000):call tb 483 [.str s,.str t] bs=some (.int .i64 (Lib.index s t),bs):=by
 have c:=H6 s t bs (by omega);rw[zcc 483 rfl rfl];simp[f483C,c]
def gsC (done:X3) (n:Nat):Qf:=done.map AV.str ++ List.replicate (n - done.length) (AV.str [])
def GA {done:X3} {n:Nat} (h:done.length<=n): (gsC done n).length=n:=by simp[gsC];omega
def Nh:=@List.drop_append
def GB {done:X3} {n:Nat} (h:done.length < n) (p:Qb): (gsC done n).take done.length ++ AV.str p:: (gsC done n).drop (done.length+1)=gsC (done ++ [p]) n:=by
 unfold gsC;obtain⟨m,rfl⟩: ∃m,n=done.length+1+m:=⟨n - done.length - 1,by omega⟩;have e1:done.length+1+m - done.length=m+1:=by omega
 have e2:done.length+1+m - (done.length+1)=m:=by omega
 have e3:List.drop (done.length+1) (List.map AV.str done ++ AV.str []:: List.replicate m (AV.str []))=List.replicate m (AV.str []):=by
  rw[Nh];simp
 simp[e1,e2,JC,e3]
def MD: ∀l:X3,Yr (l.map fun p=>[AV.str p])=true
 | []=>rfl
 | p:: l=>by
  have:=MD l;simp[this]
def Qc4 (c:UInt8) (B0:Qd) (n:Nat) (hn:n < 1000000):
  ∀(j:Nat) (done:X3) (s:Qb) (ρ:Qq),s.length < 1000000->(Zd c s).length=j+1->done.length+j+1=n->ρ 0= .str s->ρ 1= .str [c]->ρ 2= .int .i64 0->ρ 3= .int .i64 ((n - 1:Nat):Int)->
   ρ 9= .gs B0.length 0 1 n->ρ 10= .int .i64 done.length->
  R tb (.loop f642l0) ρ (B0 ++ [gsC done n]) (Q1 0 (ZE tb f642r0 (Zn f642 B0)))=some (.sl true 1 ((done ++ Zd c s).map fun p=>[AV.str p]),B0):=by
 intro j
 induction j with
 | zero=>
  intro done s ρ hs hj hd h0 h1 h2 h3 h9 h10;have hnd:n - 1=done.length:=by omega
  have hlt:done.length < n:=by omega
  have hlen:=GA (Nat.le_of_lt hlt);have hset:=GB hlt s;have hw:IntKind.i64.wrap ((done.length:Int)+1)=((done.length+1:Nat):Int):=by rw[Q2 (by omega) (by omega)];omega
  have hsp:Zd c s=[s]:=by
   cases hc:Yz [c] s with
   | none=>exact(WE c s).1 hc
   | some x=>
    obtain⟨p,q⟩:=x;have h5:=(WE c s).2 p q hc;have h6:=Oa c q;rw[h5]at hj;simp at hj;exact absurd hj h6
  rw[hnd]at h3;rw[Qo f642l0.eq_1];have hG2:gsC (done ++ [s]) n=(done ++ [s]).map AV.str:=by
   unfold gsC;rw[show n - (done ++ [s]).length=0 by simp;omega];simp
  rw[hG2]at hset;generalize hG:gsC done n=G at *;have hb: (B0 ++ [G])[B0.length]? =some G:=Wq;have hb2: ∀X:Qf,(B0 ++ [X])[B0.length]? =some X:=fun X=>Wq;have hle:done.length+1<=n:=by omega
  have hgp:=MD (done ++ [s]);simp only[List.map_append,ZP,Y5]at hgp;have hc1: (0:Int)<=(done.length:Int)+1:=by omega
  have hc2: (done.length:Int)+1<=(n:Int):=by omega
  have hch:Yi (done.map AV.str ++ [AV.str s]) 0 1 (done.length+1)=(done.map fun p=>[AV.str p])++ [[AV.str s]]:=by
   have h7:=Qcl (done.map AV.str ++ [AV.str s]) (by simp[AV.strip]);simpa[Z0]using h7
  rw[hsp];simp[-getElem?_pos,Qr,Qv,h0,h1,h2,h3,h9,h10,f642r0,hlen,hlt,hset,hw,hb,hb2,hle,hc1,hc2,XW,hch,hgp]
 | succ j ih=>
  intro done s ρ hs hj hd h0 h1 h2 h3 h9 h10;rcases VY [c] s with⟨hc,_⟩ | ⟨p,q,hc,hi,hpq⟩
  ·have:=(WE c s).1 hc;rw[this]at hj;simp at hj
  have hsp:=(WE c s).2 p q hc;have hlt:done.length < n:=by omega
  have hlt1:done.length < n - 1:=by omega
  have hlt2: (done.length:Int) < ((n - 1:Nat):Int):=by omega
  have hlen:=GA (Nat.le_of_lt hlt);have hset:=GB hlt p;have hw:IntKind.i64.wrap ((done.length:Int)+1)=((done.length+1:Nat):Int):=by rw[Q2 (by omega) (by omega)];omega
  have hsl:s.length=p.length+ (1+q.length):=by rw[hpq];simp;omega
  have hw1:IntKind.i64.wrap (p.length:Int)=(p.length:Int):=Q2 (by omega) (by omega);have hw2:IntKind.i64.wrap ((p.length:Int)+1)=((p.length+1:Nat):Int):=by rw[Q2 (by omega) (by omega)];omega
  have e1:s.take p.length=p:=by rw[hpq];simp
  have e2:s.drop (p.length+1)=q:=by rw[hpq,Nh];simp
  have hle1:p.length<=s.length:=by omega
  have hnn: ¬((p.length:Int) < 0):=by omega
  have hle2:p.length+1<=s.length:=by omega
  have hle:done.length+1<=n:=by omega
  have cx:=QbZ s [c] (B0 ++ [gsC done n]) hs;rw[hi]at cx;rw[hsp]at hj ⊢;have hI:=ih (done ++ [p]) q;simp only[Zf,QO,QX,QP]at hI;generalize hG:gsC done n=G at *;have hb: (B0 ++ [G])[B0.length]? =some G:=Wq;have hset2: (B0 ++ [G]).set B0.length (gsC (done ++ [p]) n)=B0 ++ [gsC (done ++ [p]) n]:=by rw[Jw _ _ (Za _)];simp
  rw[Qo f642l0.eq_1];generalize hm1:p.length+1=m1 at *;generalize hd1:done.length+1=d1 at *;generalize hn1:n - 1=n1 at *;simp[-getElem?_pos,Qr,Qv,h0,h1,h2,h3,h9,h10,hlen,hlt,hlt1,hlt2,cx,hnn,hw,hw1,hw2,hb,hle1,hle2,hle,e1,e2,hset,hset2,hd1];simp only[QO]at hj;rw[hI] <;> first | omega | (simp[h1,h2,h3,h9];done) | skip
def H7 (s:Qb) (c:UInt8) (bs:Qd):call tb 636 [.str s,.str [c]] bs=some (.int .i64 (s.count c:Nat),bs):=by
 rw[Wu tb_636];simp[ZG,Ia]
def Qb2 (s:Qb) (c:UInt8) (bs:Qd) (hs:s.length < 900000):call tb 642 [.str s,.str [c],.int .i64 0,.int .i64 (-1)] bs=some (.sl true 1 ((Zd c s).map fun p=>[AV.str p]),bs):=by
 have cc:=H7 s c bs;have hct:=VW c s;have hcl:s.count c<=s.length:=List.count_le_length;have hL:=Qc4 c bs (s.count c+1) (by omega) (s.count c) [] s;simp only[Wb,QX,QP,Nat.add_sub_cancel]at hL;have hg0:gsC [] (s.count c+1)=List.replicate (s.count c+1) (AV.str []):=by simp[gsC]
 rw[hg0]at hL;rw[zcc 642 rfl rfl];generalize s.count c=m at *;have hw1:IntKind.i64.wrap ((m:Int)+1)=((m+1:Nat):Int):=by rw[Q2 (by omega) (by omega)];omega
 have hw2:IntKind.i64.wrap ((s.length:Int)+1)=((s.length+1:Nat):Int):=by rw[Q2 (by omega) (by omega)];omega
 have hw3:IntKind.i64.wrap (((m+1:Nat):Int) - 1)=(m:Int):=by rw[Q2 (by omega) (by omega)];omega
 have hmin:min (m+1) (s.length+1)=m+1:=by omega
 have hle:m+1<=s.length+1:=by omega
 generalize hm1:m+1=m1 at *;have hlt: ¬((s.length:Int)+1 < (m1:Int)):=by omega
 have e1:m1*16<=140737488355328:=by omega
 have e2: (m1:Int)<=4611686018427387904:=by omega
 have e3: (0:Int)<=(m1:Int):=by omega
 simp[f642C,cc,hw1,hw2,hw3,hlt,e1,e2,e3];rw[hL] <;> first | omega | simp
def H8 (s:Qb) (c:UInt8) (bs:Qd) (hs:s.length < 900000):call tb 641 [.str s,.str [c]] bs=some (.sl true 1 ((Zd c s).map fun p=>[AV.str p]),bs):=by
 have h:=Qb2 s c bs hs;have hgp:=MD (Zd c s);generalize (Zd c s).map (fun p=>[AV.str p])=L at *;rw[zcc 641 rfl rfl];simp[f641C,h,hgp]
def atS (s:Qb):Int×Bool:=match Lib.atoiAll s with
 | .ok v=>(v,true)
 | .range=>(Lib.atoiSat s,false)
 | _=>(0,false)
def JZ (s:Qb) (bs:Qd) (hs:s.length < 1000000):call tb 76 [.str s] bs=some (.tup [.int .i64 (atS s).1,.err (atS s).2],bs):=by
 rw[Wu tb_76];unfold atS;cases h:Lib.atoiAll s <;> simp[ZG,Nu,hs,h]
def rdW:X3->QH->QH->QH×QH×Bool
 | [],a,c=>(a,c,true)
 | w:: ws,a,c=>
  let p:=QM [94] w
  if(atS p.1).2=false then(a,c,false)
  else if p.2.2=false then rdW ws (a ++ [(atS p.1).1]) c
  else if(atS p.2.1).2=false then(a ++ [(atS p.1).1],c,false)
  else rdW ws (a ++ [(atS p.1).1]) (c ++ [(atS p.2.1).1])
def X5 (t s:Qb): (QM t s).1.length<=s.length/\(QM t s).2.1.length<=s.length:=by
 unfold QM;rcases VY t s with⟨h1,_⟩ | ⟨p,q,h1,_,h3⟩
 ·rw[h1];simp
 ·rw[h1];have:=Xb List.length h3;simp only[Zf]at this;simp only;omega
def Hi (L:X3) (i:Nat): (L.map fun p=>[AV.str p])[i]? =(L[i]?).map fun p=>[AV.str p]:=by simp
def XU (a:QH) (x:Int):ZD a ++ [[AV.int .i64 x]]=ZD (a ++ [x]):=by simp[ZD]
def Bn (L:X3) (hL: ∀w∈L,w.length < 1000000) (hLl:L.length < 1000000) (N Q:Int) (T:Tm) (bs:Qd):
  ∀(post pre:X3) (a c:QH) (o1 o2:Bool) (ρ:Qq),L=pre ++ post->a.length<=pre.length->c.length<=pre.length->
   ρ 2= .bx [.int .i64 0,.int .i64 0,.sl true 1 [],.sl true 1 [],.int .i64 0,.str [],.int .i64 0,.sl true 4 []]->
   ρ 4= .bx ([.int .i64 Q,.int .i64 N,.sl true 1 (ZD a),.sl true 1 (ZD c)]++ Ql T)->ρ 85= .sl o1 1 (L.map fun p=>[AV.str p])->ρ 86= .int .i64 L.length->ρ 87= .int .i64 pre.length->
  R tb (.loop f646l1) ρ bs (Q1 2 (ZE tb f646r0 (Zn f646 bs)))=
   some (.tup [.agg ([.int .i64 Q,.int .i64 N,.sl false 1 (ZD (rdW post a c).1),.sl false 1 (ZD (rdW post a c).2.1)]++ Ql T),.bool (rdW post a c).2.2],bs):=by
 intro post
 induction post with
 | nil=>
  intro pre a c o1 o2 ρ hk ha hc h2 h4 h85 h86 h87;simp at hk;subst hk;rw[Qo f646l1.eq_1];simp[Qx,h2,h4,h85,h86,h87,f646r0,rdW]
 | cons w post ih=>
  intro pre a c o1 o2 ρ hk ha hc h2 h4 h85 h86 h87;obtain⟨hg,hw,hlt,hx⟩:=Ue hk (by omega);have hwl:=hL w hx;have c1:=H9 w [94] bs hwl (by decide);obtain⟨l1,l2⟩:=X5 [94] w;have c2:=JZ (QM [94] w).1 bs (by omega);have c3:=JZ (QM [94] w).2.1 bs (by omega);have hlt':pre.length < L.length:=by omega
  have e1: (a.length+1)*8<=140737488355328:=by omega
  have e2: (c.length+1)*8<=140737488355328:=by omega
  have hgs:=Hi L pre.length;rw[hg]at hgs;simp only[QA]at hgs;generalize hM: (L.map fun p=>[AV.str p])=M at *;have hml:M.length=L.length:=by rw[<- hM];simp
  simp only[rdW];generalize QM [94] w=p at *;obtain⟨x,y,has⟩:=p;simp only at c1 c2 c3 l1 l2 ⊢;have hI:=ih (pre ++ [w]);generalize hax:atS x=ax at *;obtain⟨vx,ox⟩:=ax;generalize hay:atS y=ay at *;obtain⟨vy,oy⟩:=ay;simp only at c2 c3 ⊢;rw[Qo f646l1.eq_1];cases ox
  ·simp only[QF];simp[-getElem?_pos,Qr,Qv,Qx,h2,h4,h85,h86,h87,hgs,hw,hlt',c1,c2]
  ·simp only[YW,QC];cases has
   ·simp only[QF];simp[-getElem?_pos,Qr,Qv,Qx,h2,h4,h85,h86,h87,hgs,hw,hlt',c1,c2,e1,XU];rw[hI (a ++ [vx]) c o1 o2] <;> first | omega | (simp[h2,h4,h85,h86,Qx,hk];done) | (simp;omega) | skip
   ·simp only[YW,QC];cases oy
    ·simp only[QF];simp[-getElem?_pos,Qr,Qv,Qx,h2,h4,h85,h86,h87,hgs,hw,hlt',c1,c2,c3,e1,XU]
    ·simp only[YW,QC];simp[-getElem?_pos,Qr,Qv,Qx,h2,h4,h85,h86,h87,hgs,hw,hlt',c1,c2,c3,e1,e2,XU];rw[hI (a ++ [vx]) (c ++ [vy]) o1 o2] <;> first | omega | (simp[h2,h4,h85,h86,Qx,hk];done) | (simp;omega) | skip
def rIx (w:Qb):Nat->Int->Option Int
 | 0,_=>none
 | k+1,n=>if rOk n=false then none else if Zx n=w then some n else rIx w k (n+1)
def Bu (W:Qd) (w:Qb) (hW:W[0]? =some [.str w]) (T:Tm) (bs:Qd) (RES:Int->Option (AV×Qd))
  (hr1: ∀(n:Int) (ρ:Qq),ρ 2= .bx [.int .i64 0,.int .i64 0,.sl true 1 [],.sl true 1 [],.int .i64 0,.str [],.int .i64 0,.sl true 4 []]->
   ρ 4= .bx ([.int .i64 n,.int .i64 0,.sl true 1 [],.sl true 1 []]++ Ql T)->ρ 10= .sl true 1 W->R tb f646r1 ρ bs (Zn f646 bs)=RES n):
  ∀(k:Nat) (n:Int) (ρ:Qq),17 - n < (k:Int)->1<=n->n<=17->ρ 2= .bx [.int .i64 0,.int .i64 0,.sl true 1 [],.sl true 1 [],.int .i64 0,.str [],.int .i64 0,.sl true 4 []]->
   ρ 4= .bx ([.int .i64 0,.int .i64 0,.sl true 1 [],.sl true 1 []]++ Ql T)->ρ 10= .sl true 1 W->ρ 11= .int .i64 n->
  R tb (.loop f646l0) ρ bs (Q1 0 (ZE tb f646r1 (Zn f646 bs)))=
   match rIx w k n with
   | none=>some (.tup [.agg ([.int .i64 0,.int .i64 0,.sl false 1 [],.sl false 1 []]++ Ql T),.bool false],bs)
   | some r=>RES r:=by
 intro k
 induction k with
 | zero=>intro n ρ hk h1 h2;omega
 | succ k ih=>
  intro n ρ hk h1n hn17 h2 h4 h10 h11;have c:=Md n bs;rw[Qo f646l0.eq_1];unfold rIx;cases hr:rOk n
  ·rw[hr]at c;rw[Qh rfl];simp[-getElem?_pos,Qr,Qv,Qx,h2,h4,h10,h11,c]
  ·rw[hr]at c;have hn:n<=16:=by simp[rOk]at hr;omega
   have hw:IntKind.i64.wrap (n+1)=n+1:=Q2 (by omega) (by omega);rw[Qe (by simp)];by_cases hq:Zx n=w
   ·rw[Qh hq];simp[-getElem?_pos,Qr,Qv,Qx,h2,h4,h10,h11,c,hW,hq,Ma 1 0 rfl];rw[hr1 n] <;> simp[h2,h4,h10,Qx]
   ·rw[Qe hq];have hq2: (Zx n == w)=false:=by simpa using hq
    simp[-getElem?_pos,Qr,Qv,Qx,h2,h4,h10,h11,c,hW,hq2,hw];rw[ih (n+1)] <;> first | omega | simp[h2,h4,h10,Qx]
def rdR (r:Int) (ws:X3) (T:Tm):Ded×Bool:=
 if r=1 then(if ws.length≠1 then(⟨r,0,[],[],T⟩,false)else(⟨r,(atS (ws.headD [])).1,[],[],T⟩,(atS (ws.headD [])).2))
 else(⟨r,0,(rdW ws [] []).1,(rdW ws [] []).2.1,T⟩,(rdW ws [] []).2.2)
def Qdw (w0:Qb) (ws:X3) (hL: ∀w∈ws,w.length < 1000000) (hLl:ws.length < 900000) (T:Tm) (bs:Qd) (r:Int) (ρ:Qq)
  (h2:ρ 2= .bx [.int .i64 0,.int .i64 0,.sl true 1 [],.sl true 1 [],.int .i64 0,.str [],.int .i64 0,.sl true 4 []])
  (h4:ρ 4= .bx ([.int .i64 r,.int .i64 0,.sl true 1 [],.sl true 1 []]++ Ql T)) (h10:ρ 10= .sl true 1 ((w0:: ws).map fun p=>[AV.str p])):
  R tb f646r1 ρ bs (Zn f646 bs)=some (.tup [.agg (Zi (rdR r ws T).1),.bool (rdR r ws T).2],bs):=by
 have hc1: (1:Int)<=(ws.length:Int)+1:=by omega
 have htk:List.take ws.length (ws.map fun p=>[AV.str p])=ws.map fun p=>[AV.str p]:=VM (by simp);unfold rdR;by_cases hr:r=1
 ·subst hr;rw[Qh rfl];by_cases hl:ws.length=1
  ·rw[Qe (by simpa using hl)];obtain⟨w,rfl⟩: ∃w,ws=[w]:=by
    cases ws with
    | nil=>simp at hl
    | cons w l=>cases l with
     | nil=>exact⟨w,rfl⟩
     | cons _ _=>simp at hl
   have c:=JZ w bs (hL w (by simp));simp only[List.headD_cons];generalize atS w=p at *;obtain⟨v,ok⟩:=p;simp only at c ⊢;cases ok <;> simp[f646r1,h2,h4,h10,Qx,Zu,c,ZD]
  ·rw[Qh (by simpa using hl)];have hl': ¬((ws.length:Int)=1):=by omega
   simp[f646r1,h2,h4,h10,Qx,Zu,hc1,htk,hl',hl,ZD]
 ·rw[Qe hr];have hI:=Bn ws hL (by omega) 0 r T bs ws [] [] [];simp[f646r1,h2,h4,h10,Qx,hr,hc1,htk];rw[hI false false] <;> first | (simp[h2,h4,Qx,Zu,ZD];done) | skip
def rd0 (T:Tm):Ded:=⟨0,0,[],[],T⟩
def rdP (s:Qb):Ded×Bool:=
 let p:=QM [58,32] s
 if p.2.2=false then(rd0 (.mk 0 [] 0 []),false)
 else if(prT p.2.1).2≠0 then(rd0 (.mk 0 [] 0 []),false)
 else match Zd 32 p.1 with
  | []=>(rd0 (.mk 0 [] 0 []),false)
  | w:: ws=>match rIx w 17 1 with
   | none=>(rd0 (prT p.2.1).1,false)
   | some r=>rdR r ws (prT p.2.1).1
def S7 (c:UInt8): ∀s:Qb,(∀w∈Zd c s,w.length<=s.length)/\(Zd c s).length<=s.length+1
 | []=>by simp[Zd]
 | b:: l=>by
  obtain⟨h1,h2⟩:=S7 c l;rw[Lk];by_cases h:b=c
  ·rw[Qh h];refine⟨fun w hw=> ?_,by simp;omega⟩;rcases Yd.1 hw with rfl | hw
   ·simp
   ·have:=h1 w hw;simp;omega
  ·rw[Qe h];cases hs:Zd c l with
   | nil=>simp
   | cons p ps=>
    rw[hs]at h1 h2;refine⟨fun w hw=> ?_,by simp at h2 ⊢;omega⟩;rcases Yd.1 hw with rfl | hw
    ·have:=h1 p (by simp);simp;omega
    ·have:=h1 w (by simp[hw]);simp;omega
def Qb3 (s:Qb) (hs:s.length < 800000) (bs:Qd):call tb 646 [.str s] bs=some (.tup [.agg (Zi (rdP s).1),.bool (rdP s).2],bs):=by
 have c1:=H9 s [58,32] bs (by omega) (by decide);obtain⟨l1,l2⟩:=X5 [58,32] s;unfold rdP;generalize QM [58,32] s=p at *;obtain⟨hd,tl,ok⟩:=p;simp only at c1 l1 l2 ⊢;have c2:=Qb5 tl (by omega) bs;have c3:=H8 hd 32 bs (by omega);obtain⟨m1,m2⟩:=S7 32 hd;have hne:=Oa 32 hd;generalize prT tl=q at *;obtain⟨T,e⟩:=q;simp only at c2 ⊢;rw[zcc 646 rfl rfl];cases ok
 ·rw[Qh rfl];simp[f646C,c1,rd0,Zu,ZD,Tm.kind,Tm.name,Tm.sort,Tm.kids,Qz]
 ·rw[Qe (by simp)];by_cases he:e=0
  ·subst he;rw[Qe (by simp)];cases hsp:Zd 32 hd with
   | nil=>exact absurd hsp hne
   | cons w ws=>
    rw[hsp]at c3 m1 m2;simp only;have hR:=Bu ((w:: ws).map fun p=>[AV.str p]) w (by simp) T bs (fun r=>some (.tup [.agg (Zi (rdR r ws T).1),.bool (rdR r ws T).2],bs))
     (fun n ρ h2 h4 h10=>Qdw w ws (fun x hx=>by have:=m1 x (by simp[hx]);omega) (by simp at m2;omega) T bs n ρ h2 h4 h10) 17 1
    simp[f646C,c1,c2,c3];rw[hR] <;> first | (simp[Qx];done) | skip
    cases rIx w 17 1 <;> simp[rd0,Zu,Qx,ZD]
  ·rw[Qh he];simp[f646C,c1,c2,he,rd0,Zu,ZD,Tm.kind,Tm.name,Tm.sort,Tm.kids,Qz]
def Xf:X3->QS->Option QS
 | [],l=>some l
 | x:: xs,l=>if(rdP x).2=false then none else Xf xs (l ++ [(rdP x).1])
def UX (l:QS) (d:Ded):Zh l ++ [Zi d]=Zh (l ++ [d]):=by simp[Zh]
def F0 (X:X3) (hX: ∀x∈X,x.length < 800000) (hXl:X.length < 100000) (s:Qb) (bs:Qd) (RES:QS->Option (AV×Qd))
  (hr0: ∀(l:QS) (ρ:Qq),Xf X []=some l->ρ 0= .str s->ρ 5= .sl true 8 (Zh l)->R tb f635r0 ρ bs (Zn f635 bs)=RES l):
  ∀(post pre:X3) (l:QS) (o:Bool) (ρ:Qq),X=pre ++ post->l.length=pre.length->Xf X []=Xf post l->ρ 0= .str s->ρ 5= .sl true 8 (Zh l)->ρ 37= .sl o 1 (X.map fun p=>[AV.str p])->ρ 38= .int .i64 X.length->ρ 39= .int .i64 pre.length->
  R tb (.loop f635l0) ρ bs (Q1 0 (ZE tb f635r0 (Zn f635 bs)))=
   match Xf post l with
   | none=>some (.tup [.sl false 8 [],.int .i64 2],bs)
   | some l=>RES l:=by
 intro post
 induction post with
 | nil=>
  intro pre l o ρ hk hl hi h0 h5 h37 h38 h39;simp at hk;subst hk;rw[Qo f635l0.eq_1];simp[h0,h5,h37,h38,h39,Xf];rw[hr0 l] <;> first | omega | (simp[h0,h5];done) | simpa[Xf]using hi
 | cons x post ih=>
  intro pre l o ρ hk hl hi h0 h5 h37 h38 h39;obtain⟨hg,hw,hlt,hx⟩:=Ue hk (by omega);have c1:=Qb3 x (hX x hx) bs;have hlt':pre.length < X.length:=by omega
  have hgs:=Hi X pre.length;rw[hg]at hgs;simp only[QA]at hgs;have e1: (l.length+1)*120<=140737488355328:=by omega
  have hI:=ih (pre ++ [x]);generalize hM: (X.map fun p=>[AV.str p])=M at *;have hml:M.length=X.length:=by rw[<- hM];simp
  simp only[Xf]at hi ⊢;generalize rdP x=p at *;obtain⟨d,ok⟩:=p;simp only at c1 hi ⊢;rw[Qo f635l0.eq_1];cases ok
  ·simp[-getElem?_pos,Qr,Qv,h0,h5,h37,h38,h39,hgs,hw,hlt',c1]
  ·simp[-getElem?_pos,Qr,Qv,h0,h5,h37,h38,h39,hgs,hw,hlt',c1,e1,UX];rw[hI (l ++ [d]) o] <;> first | (simp[h0,h37,h38,hk,hl];done) | (simpa using hi) | skip
def Mz: ∀(ws:X3) (a c:QH),(rdW ws a c).1.length<=a.length+ws.length/\(rdW ws a c).2.1.length<=c.length+ws.length
 | [],a,c=>by simp[rdW]
 | w:: ws,a,c=>by
  simp only[rdW];split
  ·simp only[QO];omega
  ·split
   ·have:=Mz ws (a ++ [(atS (QM [94] w).1).1]) c;simp only[Zf,QO,QX]at this ⊢;omega
   ·split
    ·simp only[Zf,QO,QX];omega
    ·have:=Mz ws (a ++ [(atS (QM [94] w).1).1]) (c ++ [(atS (QM [94] w).2.1).1]);simp only[Zf,QO,QX]at this ⊢;omega
def Qat (s:Qb) (hs:s.length < 1000000): (prT s).1.mass < big:=by
 have hM:=((NP (2*s.length+1)).1 s).1;unfold prT;simp only;split
 ·simp[Tm.mass,Zs,big]
 ·split
  ·simp[Tm.mass,Zs,big]
  ·unfold big;simp only;omega
def Qh5 (r:Int) (ws:X3) (T:Tm) (hw:ws.length < 900000) (hT:T.mass < big): (rdR r ws T).1.a.length < 1000000/\(rdR r ws T).1.c.length < 1000000/\(rdR r ws T).1.t.mass < big:=by
 have h:=Mz ws [] [];simp only[QX,QP]at h;unfold rdR;split
 ·split <;> exact⟨by simp,by simp,hT⟩
 ·exact⟨by simp only;omega,by simp only;omega,hT⟩
def Qh4 (s:Qb) (hs:s.length < 800000): (rdP s).1.a.length < 1000000/\(rdP s).1.c.length < 1000000/\(rdP s).1.t.mass < big:=by
 obtain⟨l1,l2⟩:=X5 [58,32] s;have hT:=Qat (QM [58,32] s).2.1 (by omega);have hsm:=(S7 32 (QM [58,32] s).1).2;unfold rdP;simp only;split
 ·exact⟨by simp[rd0],by simp[rd0],by simp[rd0,Tm.mass,Zs,big]⟩
 ·split
  ·exact⟨by simp[rd0],by simp[rd0],by simp[rd0,Tm.mass,Zs,big]⟩
  ·split
   ·exact⟨by simp[rd0],by simp[rd0],by simp[rd0,Tm.mass,Zs,big]⟩
   ·rename_i w ws hws;rw[hws]at hsm;simp only[QO]at hsm;split
    ·exact⟨by simp[rd0],by simp[rd0],hT⟩
    ·exact Qh5 _ ws _ (by omega) hT
def My: ∀(X:X3) (l l':QS),(∀x∈X,x.length < 800000)->FmD l->Xf X l=some l'->FmD l'/\l'.length=l.length+X.length
 | [],l,l',_,hl,h=>by
  simp only[Xf,Qs]at h;subst h;exact⟨hl,by simp⟩
 | x:: X,l,l',hX,hl,h=>by
  simp only[Xf]at h;split at h
  ·cases h
  ·have hx:=Qh4 x (hX x (by simp));obtain⟨h1,h2⟩:=My X (l ++ [(rdP x).1]) l' (fun y hy=>hX y (by simp[hy])) (fun d hd=>by
    rcases Wd.1 hd with hd | hd
    ·exact hl d hd
    ·simp at hd;subst hd;exact hx) h
   exact⟨h1,by simp at h2 ⊢;omega⟩
def VS (s:Qb):Nat:=if s≠[]/\sfx [10] s=false then s.count 10+1 else s.count 10
def X8 (s:Qb):QS×Int:=
 if 65536 < s.length\/400 < VS s then([],3)
 else match Xf (Zd 10 s).dropLast []with
  | none=>([],2)
  | some l=>if(Zk l).2≠0\/(Zk l).1≠s then([],2)else(l,0)
def Zy:Zh []=[]:=rfl
def Qaq (s:Qb) (bs:Qd) (l:QS) (hl:l.length < 1000000000) (hF:FmD l) (ρ:Qq) (h0:ρ 0= .str s) (h5:ρ 5= .sl true 8 (Zh l)):
  R tb f635r0 ρ bs (Zn f635 bs)=some (.tup [.sl false 8 (Zh (if(Zk l).2≠0\/(Zk l).1≠s then []else l)),.int .i64 (if(Zk l).2≠0\/(Zk l).1≠s then 2 else 0)],bs):=by
 have c:=PZ l false hF hl bs;generalize Zk l=p at *;obtain⟨t,e⟩:=p;simp only at c ⊢;by_cases he:e=0
 ·subst he;by_cases ht:t=s
  ·subst ht;simp[f635r0,h0,h5,c]
  ·have ht2: (t == s)=false:=by simpa using ht
   simp[f635r0,h0,h5,c,ht,ht2,Zy]
 ·simp[f635r0,h0,h5,c,he,Zy]
def Y9 (c d:UInt8) (r:Qb):pfx [c] (d:: r)=decide (d=c):=by
 by_cases h:d=c <;> simp[pfx,h]
def Qdr (c:UInt8):pfx [c] []=false:=by simp[pfx]
def Be (r:Qb):pfx [44,32] (44:: 32:: r)=true:=by simp[pfx]
def Tp:Qb->Bool
 | []=>true
 | c:: _=> !ZW c && !(c == 58)
def Gv {r:Qb} (h:Tp r=true):nmW r=[]/\pfx [58] r=false:=by
 cases r with
 | nil=>exact⟨rfl,Qdr 58⟩
 | cons c r=>
  simp only[Tp,Qi,Tc]at h;refine⟨by simp[nmW,h.1],?_⟩;rw[Y9];simpa using h.2
def UO: ∀(n r:Qb),n.all ZW=true->nmW (n ++ r)=n ++ nmW r
 | [],r,_=>rfl
 | c:: n,r,h=>by
  simp only[YG,Qi]at h;have ih:=UO n r h.2;unfold nmW at ih ⊢;rw[X9,List.takeWhile_cons,Qh h.1,ih];rfl
def UN {n:Qb} (h:Q4 n=true):n.all ZW=true:=by
 cases n with
 | nil=>rfl
 | cons c r=>
  simp only[Q4,Qi]at h;simp only[YG,Qi];exact⟨h.1.1.1.1.2,h.2⟩
def Mv {n:Qb} (h:Q4 n=true): ∃c m,n=c:: m/\c≠63/\c≠41:=by
 have ha:=UN h;cases n with
 | nil=>simp[Q4]at h
 | cons c r=>
  simp only[YG,Qi]at ha;refine⟨c,r,rfl,fun e=> ?_,fun e=> ?_⟩ <;> subst e <;> exact absurd ha.1 (by decide)
def Od {s:Int} (h0:0<=s) (h1:s<=5): (wrd s).all ZW=true:=by
 rcases Sx h0 h1 with rfl | rfl | rfl | rfl | rfl | rfl <;> decide
def Qid {s:Int} (h0:0<=s) (h1:s<=5):ixF WG (wrd s)=s:=by
 rcases Sx h0 h1 with rfl | rfl | rfl | rfl | rfl | rfl <;> decide
def UI (n r:Qb): (n ++ r).drop n.length=r:=by simp
def Ba {s:Int} (h0:0<=s) (h1:s<=5) (ls:Int) (r:Qb) (hr:nmW r=[]):pS ls (58:: (wrd s ++ r))=(s,r,decide (ls<=s)):=by
 have h2:nmW (wrd s ++ r)=wrd s:=by rw[UO _ _ (Od h0 h1),hr,Ya]
 unfold pS;rw[Y9,Qh (by simp),WZ,XK,h2,Qid h0 h1,UI]
def Bb {k:Nat} {n r:Qb} (hn:Q4 n=true) (hr:nmW r=[]):pT (k+1) (63:: (n ++ r))=if pfx [58] r then(.mk 1 n (pS 1 r).1 [],(pS 1 r).2.1,(pS 1 r).2.2)else(.mk 1 n 0 [],r,true):=by
 have h1: (if pfx [63] (63:: (n ++ r))then(63:: (n ++ r)).drop 1 else 63:: (n ++ r))=n ++ r:=by rw[Y9,Qh (by simp)];rfl
 have h2:nmW (n ++ r)=n:=by rw[UO _ _ (UN hn),hr,Ya]
 rw[LM h1 h2 (UI n r),Qe (by simp[hn]),Qh (by rw[Y9];simp)]
def QbB {k:Nat} {n r:Qb} (hn:Q4 n=true) (hr:nmW r=[]):pT (k+1) (n ++ r)=if pfx [40] r then pL k n [] (r.drop 1)else(.mk 2 n (pS 0 r).1 [],(pS 0 r).2.1,(pS 0 r).2.2):=by
 obtain⟨c,m,hc,h63,_⟩:=Mv hn;have hp:pfx [63] (n ++ r)=false:=by rw[hc,X9,Y9];simpa using h63
 have h1: (if pfx [63] (n ++ r)then(n ++ r).drop 1 else n ++ r)=n ++ r:=by rw[hp];rfl
 have h2:nmW (n ++ r)=n:=by rw[UO _ _ (UN hn),hr,Ya]
 rw[LM h1 h2 (UI n r),Qe (by simp[hn]),Qe (by simp[hp])]
def Ho {t:Tm} (h:Yh t=0): ∃c m,txT t=c:: m/\c≠41:=by
 obtain⟨k,n,s,l⟩:=t;obtain⟨h1,h2⟩:=UP h;obtain⟨hn,hc⟩:=Wz h1;obtain⟨c,m,hcm,_,h41⟩:=Mv hn;rcases hc with⟨rfl,_⟩ | ⟨rfl,_⟩ | ⟨rfl,_⟩
 ·by_cases hs:s=0
  ·exact⟨63,n,by simp[txT,hs],by decide⟩
  ·exact⟨63,_,by simp[txT,hs];rfl,by decide⟩
 ·exact⟨c,m ++ 58:: wrd s,by simp[txT,hcm],h41⟩
 ·exact⟨c,m ++ 40:: (txL l ++ [41]),by simp[txT,hcm],h41⟩
def QhW (n:Qb): ∀(ks l:Qp) (k:Nat) (r:Qb),(∀x∈ks,∀(k:Nat) (r:Qb),Tp r=true->(txT x).length<=k->pT k (txT x ++ r)=(x,r,true))->l≠[]->(txM ks).length+1<=k->
  pL k n l (txM ks ++ 41:: r)=(.mk 3 n 0 (l ++ ks),r,true)
 | [],l,k,r,_,hl,hk=>by
  obtain⟨k,rfl⟩: ∃k',k=k'+1:=⟨k - 1,by simp[txM]at hk;omega⟩;simp only[txM,Wb,Ya];rw[pL,Qh (by rw[Y9];simp)];rfl
 | t:: ks,l,k,r,h,hl,hk=>by
  simp only[txM,QO,Zf]at hk;obtain⟨k,rfl⟩: ∃k',k=k'+1:=⟨k - 1,by omega⟩;have hE:Tp (txM ks ++ 41:: r)=true:=by cases ks <;> rfl
  have h1:=h t (by simp) k (txM ks ++ 41:: r) hE (by omega);have h2:=QhW n ks (l ++ [t]) k r (fun x hx=>h x (by simp[hx])) (by simp) (by omega);simp only[txM,X9,XP]at h1 h2 ⊢;rw[pL,Qe (by rw[Y9];simp),Qe (by rw[Be];simp)];simp only[hl,QC,WZ,XK,h1,YW];rw[h2];simp
def QhX: ∀(t:Tm) (k:Nat) (r:Qb),Yh t=0->Tp r=true->(txT t).length<=k->pT k (txT t ++ r)=(t,r,true):=by
 refine Xg ?_;intro K n s ks ih k r he hr hk;obtain⟨c,m,hcm,_⟩:=Ho he;have hpos:0 < (txT (.mk K n s ks)).length:=by rw[hcm];simp
 obtain⟨k,rfl⟩: ∃k',k=k'+1:=⟨k - 1,by omega⟩;obtain⟨h1,h2⟩:=UP he;obtain⟨hn,hc⟩:=Wz h1;obtain⟨hr1,hr2⟩:=Gv hr;rcases hc with⟨rfl,h3,h4,rfl⟩ | ⟨rfl,h3,h4,rfl⟩ | ⟨rfl,rfl,h8⟩
 ·by_cases hs:s=0
  ·subst hs;have:txT (.mk 1 n 0 [])++ r=63:: (n ++ r):=by simp[txT]
   rw[this,Bb hn hr1,Qe (by simp[hr2])]
  ·have:txT (.mk 1 n s [])++ r=63:: (n ++ (58:: (wrd s ++ r))):=by simp[txT,hs]
   rw[this,Bb hn (by simp[nmW,ZW]),Qh (by rw[Y9];simp),Ba h3 h4 1 r hr1];have: (1:Int)<=s:=by omega
   simp[this]
 ·have:txT (.mk 2 n s [])++ r=n ++ (58:: (wrd s ++ r)):=by simp[txT]
  rw[this,QbB hn (by simp[nmW,ZW]),Qe (by rw[Y9];simp),Ba h3 h4 0 r hr1];simp[h3]
 ·have hkk:n.length+ (txL ks).length+1<=k:=by simp[txT]at hk;omega
  have:txT (.mk 3 n 0 ks)++ r=n ++ (40:: (txL ks ++ 41:: r)):=by simp[txT]
  rw[this,QbB hn (by simp[nmW,ZW]),Qh (by rw[Y9];simp),WZ,XK];have ih': ∀x∈ks,∀(k:Nat) (r:Qb),Tp r=true->(txT x).length<=k->pT k (txT x ++ r)=(x,r,true):=fun x hx k r=>ih x hx k r (Xz h2 hx);cases ks with
  | nil=>
   obtain⟨k,rfl⟩: ∃k',k=k'+1:=⟨k - 1,by omega⟩;simp only[txL,Wb];rw[pL,Qh (by rw[Y9];simp)];rfl
  | cons x ks=>
   simp only[txL,Zf]at hkk;obtain⟨k,rfl⟩: ∃k',k=k'+1:=⟨k - 1,by omega⟩;obtain⟨c,m,hcm,h41⟩:=Ho (Xz h2 (by simp:x∈x:: ks));have hE:Tp (txM ks ++ 41:: r)=true:=by cases ks <;> rfl
   have h5:=ih' x (by simp) k (txM ks ++ 41:: r) hE (by omega);have h6:=QhW n ks [x] k r (fun y hy=>ih' y (by simp[hy])) (by simp) (by rw[hcm]at hkk;simp at hkk;omega);have hp:pfx [41] (txT x ++ (txM ks ++ 41:: r))=false:=by rw[hcm,X9,Y9];simpa using h41
   simp only[txL,XP];rw[pL,Qe (by simp[hp]),Qe (by simp)];simp only[QF,h5,YW,QC,Wb];rw[h6];simp
def Qdu {t:Tm} (h:QZ t=0):prT (txT t)=(t,0):=by
 have h1:=QhX t (2* (txT t).length+1) [] (Vw h).1 rfl (by omega);rw[Ya]at h1;unfold prT;simp[h1,h]
def rKl (f:Qb->Tm×Qb×Bool) (n:Qb):Nat->Qp->Qb->Tm×Qb×Bool
 | 0,l,s=>(.mk 3 n 0 l,s,false)
 | m+1,l,s=>
  if s=[]then(.mk 3 n 0 l,s,false)
  else if pfx [41] s then(.mk 3 n 0 l,s.drop 1,true)
  else if l≠[]/\pfx [44,32] s=false then(.mk 3 n 0 l,s,false)
  else
   let s':=if l=[]then s else s.drop 2
   let p:=f s'
   if p.2.2=false then(.mk 3 n 0 l,s',false)else rKl f n m (l ++ [p.1]) p.2.1
def rHd (z:Bool) (K:Qb->Qb->Tm×Qb×Bool) (s:Qb):Tm×Qb×Bool:=
 let s1:=if pfx [63] s then s.drop 1 else s
 let kd:Int:=if pfx [63] s then 1 else 2
 let n:=nmW s1
 if Q4 n=false\/z=true then(.mk kd n 0 [],s1,false)
 else
  let s2:=s1.drop n.length
  if pfx [63] s=true\/pfx [40] s2=false then rLf kd n s2 else K n s2
def rT:Nat->Qb->Tm×Qb×Bool
 | 0,s=>rHd true (fun n s2=>(.mk 3 n 0 [],s2,false)) s
 | d+1,s=>rHd false (fun n s2=>rKl (rT d) n s2.length [] (s2.drop 1)) s
def RM (p:Tm×Qb×Bool) (s:Qb):Prop:=p.2.1.length<=s.length/\(p.2.2=true->p.1.mass+1+3*p.2.1.length<=3*s.length)
def Qh1 (kd:Int) (n s:Qb): (rLf kd n s).2.1.length<=s.length/\(rLf kd n s).1.mass=1+n.length:=by
 unfold rLf;split
 ·simp[Tm.mass,Zs]
 ·split
  ·simp[Tm.mass,Zs]
  ·simp[Tm.mass,Zs]
def Bj (f:Qb->Tm×Qb×Bool) (hf: ∀s,RM (f s) s) (n:Qb): ∀(m:Nat) (l:Qp) (s:Qb),
  (rKl f n m l s).2.1.length<=s.length/\((rKl f n m l s).2.2=true->(rKl f n m l s).1.mass+3+3* (rKl f n m l s).2.1.length<=1+n.length+l.length+Zs l+3*s.length)
 | 0,l,s=>by simp[rKl]
 | m+1,l,s=>by
  rw[rKl];by_cases h0:s=[]
  ·rw[Qh h0];simp
  ·rw[Qe h0];have hpos:0 < s.length:=WY.2 h0;cases h1:pfx [41] s
   ·rw[Qe (by simp)];by_cases h2:l≠[]/\pfx [44,32] s=false
    ·rw[Qh h2];simp
    ·rw[Qe h2];simp only;generalize hs': (if l=[]then s else s.drop 2)=s';have hl':s'.length<=s.length:=by rw[<- hs'];split <;> simp
     obtain⟨a1,a2⟩:=hf s';generalize f s'=p at *;obtain⟨t,r,ok⟩:=p;simp only at a1 a2 ⊢;cases ok
     ·simp;omega
     ·simp only[YW,QC];obtain⟨b1,b2⟩:=Bj f hf n m (l ++ [t]) r;have a3:=a2 rfl;refine⟨by omega,fun h=> ?_⟩;have b3:=b2 h;simp only[Zf,QO,QX,PM,Zs]at b3;omega
   ·rw[Qh rfl];simp only[YN,Tm.mass];exact⟨by omega,fun _=>by omega⟩
def Bi (z:Bool) (K:Qb->Qb->Tm×Qb×Bool) (hK: ∀n s,pfx [40] s=true->0 < n.length->(K n s).2.1.length<=s.length/\((K n s).2.2=true->(K n s).1.mass+1+3* (K n s).2.1.length<=3*n.length+3*s.length)) (s:Qb):RM (rHd z K s) s:=by
 unfold rHd RM;simp only;generalize hs1: (if pfx [63] s then s.drop 1 else s)=s1;have h1:s1.length<=s.length:=by rw[<- hs1];split <;> simp
 have h2:=S2 s1;generalize nmW s1=n at *;have h3: (s1.drop n.length).length=s1.length - n.length:=YN;generalize s1.drop n.length=s2 at *;by_cases hc:Q4 n=false\/z=true
 ·rw[Qh hc];exact⟨h1,fun h=>by cases h⟩
 ·rw[Qe hc];have hpos:0 < n.length:=IJ (by simp only[Vc,R8]at hc;exact hc.1);by_cases hv:pfx [63] s=true\/pfx [40] s2=false
  ·rw[Qh hv];obtain⟨a1,a2⟩:=Qh1 (if pfx [63] s=true then 1 else 2) n s2;exact⟨by omega,fun _=>by omega⟩
  ·rw[Qe hv];simp only[Vc,R8]at hv;obtain⟨a1,a2⟩:=hK n s2 hv.2 hpos;exact⟨by omega,fun h=>by have:=a2 h;omega⟩
def NQ: ∀(d:Nat) (s:Qb),RM (rT d s) s
 | 0,s=>by
  rw[rT];exact Bi true _ (fun n s _ _=>⟨Za _,fun h=>by cases h⟩) s
 | d+1,s=>by
  rw[rT];refine Bi false _ (fun n s h h2=> ?_) s;have hl:=Mx h;obtain⟨a1,a2⟩:=Bj (rT d) (NQ d) n s.length [] (s.drop 1);simp only[YN,QO,QX,Zs]at a1 a2 hl;exact⟨by omega,fun h=>by have:=a2 h;omega⟩
def Qbw {c:UInt8} {k:Nat} (hk:k < 256) (h:c≠UInt8.ofNat k): ¬((c.toNat:Int)=(k:Int)):=by
 intro e;have h1:c.toNat=k:=by omega
 exact h (Pe.1 (by rw[h1,UInt8.toNat_ofNat_of_lt' hk]))
def Fi (d:Nat):Prop:=∀(s:Qb) (bs:Qd),s.length < 1000000->call tb 154 [.str s,.int .i64 d] bs=some (.tup [.agg (Ql (rT d s).1),.str (rT d s).2.1,.bool (rT d s).2.2],bs)
def CZ (d:Nat) (hd:d < 1000) (hT:Fi d) (n:Qb) (bs:Qd):
  ∀(m:Nat) (l:Qp) (s:Qb) (ρ:Qq),s.length < m->l.length+s.length < 1000000->ρ 0= .str s->ρ 1= .int .i64 ((d+1:Nat):Int)->ρ 4= .bx [.int .i64 0,.str [],.int .i64 0,.sl true 4 []]->ρ 7= .bx [.int .i64 3,.str n,.int .i64 0,.sl true 4 (Qz l)]->
  R tb (.loop f154l0) ρ bs (Q1 0 (ZE tb f154r0 (Zn f154 bs)))=some (.tup [.agg (Ql (rKl (rT d) n m l s).1),.str (rKl (rT d) n m l s).2.1,.bool (rKl (rT d) n m l s).2.2],bs):=by
 intro m
 induction m with
 | zero=>intro l s ρ h;omega
 | succ m ih=>
  intro l s ρ hsm hls h0 h1 h4 h7;rw[Qo f154l0.eq_1,rKl];cases s with
  | nil=>
   rw[Qh rfl];simp[-getElem?_pos,Qr,Qv,h0,h1,h4,h7,Ql,f154r0]
  | cons c r=>
   rw[Qe (by simp)];have hpos: (0:Int) < (r.length:Int)+1:=by omega
   simp only[QO]at hsm hls;by_cases hc:c=41
   ·subst hc;rw[Qh (by simp[pfx])];have hl0: ¬((r.length:Int)+1=0):=by omega
    have hl1: (1:Int)<=(r.length:Int)+1:=by omega
    simp[hl1,-getElem?_pos,Qr,Qv,h0,h1,h4,h7,Ql,hpos,hl0,f154r0]
   ·have hne: ¬((c.toNat:Int)=41):=Qbw (k:=41) (by decide) hc;rw[Qe (by simp[pfx,hc])];have hwd:IntKind.i64.wrap (d:Int)=(d:Int):=Q2 (by omega) (by omega);by_cases hl0:l=[]
    ·subst hl0;have c1:=hT (c:: r) bs (by simp;omega);have hRM:=NQ d (c:: r);simp only[ne_eq,not_true,SQ,QC,QF];unfold RM at hRM;generalize rT d (c:: r)=p at *;obtain⟨t,q,ok⟩:=p;simp only[QO]at c1 hRM ⊢;cases ok
     ·simp only[QF];simp[-getElem?_pos,Qr,Qv,h0,h1,h4,h7,Ql,Qz,hpos,hne,hwd,c1]
     ·simp only[YW,QC];have hlt:=hRM.2 rfl;have hI:=fun ρ=>ih [t] q ρ (by omega) (by simp;omega);simp[-getElem?_pos,Qr,Qv,h0,h1,h4,h7,Ql,Qz,hpos,hne,hwd,c1];rw[hI] <;> simp[h1,h4,Qz,Ql]
    ·have hlp:0 < l.length:=WY.2 hl0;simp only[ne_eq,hl0,R9,ZB,QC];cases hq:pfx [44,32] (c:: r)
     ·rw[Qh rfl];cases r with
      | nil=>
       simp[-getElem?_pos,Qr,Qv,h0,h1,h4,h7,Ql,Qz,hpos,hne,hlp]
      | cons e r=>
       have h2: ¬((r.length:Int)+1+1 < 2):=by omega
       have h22: (2:Int)<=(r.length:Int)+1+1:=by omega
       have h20: (0:Int) < (r.length:Int)+1+1:=by omega
       have h3: ([c,e] == [44,32])=false:=by simpa[pfx]using hq
       have h5: ¬([c,e]=[44,32]):=by simpa using h3
       simp[-getElem?_pos,Qr,Qv,h0,h1,h4,h7,Ql,Qz,hpos,hne,hlp,h2,h22,h20,h3,h5]
     ·rw[Qe (by simp)];obtain⟨r',rfl,rfl⟩: ∃r',c=44/\r=32:: r':=by
       cases r with
       | nil=>simp[pfx]at hq
       | cons e r=>simp[pfx]at hq;exact⟨r,hq.1,by rw[hq.2]⟩
      simp only[QO]at hsm hls;have h2: ¬((r'.length:Int)+1+1 < 2):=by omega
      have h22: (2:Int)<=(r'.length:Int)+1+1:=by omega
      have h20: (0:Int) < (r'.length:Int)+1+1:=by omega
      have c1:=hT r' bs (by omega);have hRM:=NQ d r';unfold RM at hRM;simp only[WZ,XK];generalize rT d r'=p at *;obtain⟨t,q,ok⟩:=p;simp only at c1 hRM ⊢;have e1: (l.length+1)*56<=140737488355328:=by omega
      cases ok
      ·simp only[QF];simp[-getElem?_pos,Qr,Qv,h0,h1,h4,h7,Ql,Qz,hpos,hlp,h2,h22,h20,hwd,c1]
      ·simp only[YW,QC];have hlt:=hRM.2 rfl;have hI:=fun ρ=>ih (l ++ [t]) q ρ (by omega) (by simp;omega);simp[-getElem?_pos,Qr,Qv,h0,h1,h4,h7,Ql,Qz,hpos,hlp,h2,h22,h20,hwd,c1,e1];rw[hI] <;> first | (simp[h1,h4,Qz,Ql];done) | (simp[h1,h4,<- Pz,Qz,Ql];done) | skip
def IW {z:Bool} {K:Qb->Qb->Tm×Qb×Bool} {s s1 n s2:Qb} (h1: (if pfx [63] s then s.drop 1 else s)=s1) (hn:nmW s1=n) (h2:s1.drop n.length=s2):
  rHd z K s=if Q4 n=false\/z=true then(.mk (if pfx [63] s then 1 else 2) n 0 [],s1,false)else if pfx [63] s=true\/pfx [40] s2=false then rLf (if pfx [63] s then 1 else 2) n s2 else K n s2:=by
 subst h1 hn h2;rfl
def IQ {k:Nat} (hk:k < 256) {s:Qb} (h:pfx [UInt8.ofNat k] s=false):s=[]\/∃c,s[0]? =some c/\¬(c.toNat:Int)=(k:Int)/\0 < s.length/\s≠[]:=by
 cases s with
 | nil=>exact .inl rfl
 | cons c r=>
  rw[show pfx [UInt8.ofNat k] (c:: r)=decide (c=UInt8.ofNat k) by by_cases e:c=UInt8.ofNat k <;> simp[pfx,e]]at h;exact .inr ⟨c,rfl,Qbw hk (by simpa using h),by simp,by simp⟩
def Mw {c:UInt8} {s:Qb} (h:pfx [c] s=true):s[0]? =some c/\0 < s.length/\s≠[]:=by
 cases s with
 | nil=>simp[pfx]at h
 | cons d r=>
  by_cases e:d=c
  ·subst e;simp
  ·simp[pfx,e]at h
def Np:=@List.drop_one
def GC (d:Nat) (hd:d < 1000) (hT: ∀d',d=d'+1->Fi d'):Fi d:=by
 intro s bs hs;obtain⟨K,hK,hKK⟩: ∃K,rT d s=rHd (d == 0) K s/\∀d',d=d'+1->K=fun n s2=>rKl (rT d') n s2.length [] (s2.drop 1):=by
  cases d with
  | zero=>exact⟨_,rfl,fun d' h=>by omega⟩
  | succ d=>exact⟨_,rfl,fun d' h=>by cases h;rfl⟩
 rw[hK];obtain⟨s1,hs1⟩: ∃s1,(if pfx [63] s then s.drop 1 else s)=s1:=⟨_,rfl⟩;have hl1:s1.length<=s.length:=by rw[<- hs1];split <;> simp
 have c1:=H4 s1 (by omega) bs;obtain⟨n,hn⟩: ∃n,nmW s1=n:=⟨_,rfl⟩;have hnl:=S2 s1;rw[hn]at c1 hnl;obtain⟨s2,hs2⟩: ∃s2,s1.drop n.length=s2:=⟨_,rfl⟩;have hl2:s2.length<=s1.length:=by rw[<- hs2];simp
 have c2:=Pj n bs (by omega);have c3:=fun kd=>QbS kd n s2 (by omega) bs;rw[IW hs1 hn hs2,zcc 154 rfl rfl];have hdz: (d == 0)=decide (d=0):=by by_cases e:d=0 <;> simp[e]
 rw[hdz];cases hv:pfx [63] s
 ·rw[hv]at hs1;simp only[Zo,QC]at hs1;subst hs1;simp only[Zo,QC,false_or,Qm];rcases IQ (k:=63) (by decide) hv with rfl | ⟨c,hc0,hc63,hpos,hne⟩
  ·have hn0:n=[]:=by rw[<- hn];rfl
   subst hn0;have hnb:Q4 []=false:=rfl;rw[hnb]at c2;rw[Qh (.inl rfl)];simp[-getElem?_pos,Qr,Qv,f154C,c1,c2,Ql,Qz]
  ·have hpos': (0:Int) < (s.length:Int):=by omega
   have hc63: ¬(c.toNat:Int)=63:=hc63;cases hnb:Q4 n
   ·rw[hnb]at c2;rw[Qh (.inl rfl)];simp[-getElem?_pos,Qr,Qv,f154C,hc0,hc63,hpos,hpos',hne,c1,c2,Ql,Qz]
   ·rw[hnb]at c2;by_cases hd0:d=0
    ·subst hd0;rw[Qh (.inr rfl)];simp[-getElem?_pos,Qr,Qv,f154C,hc0,hc63,hpos,hpos',hne,c1,c2,Ql,Qz]
    ·rw[Qe (by simp[hd0])];have hd0': ¬(d:Int)=0:=by omega
     cases hq:pfx [40] s2
     ·rw[Qh rfl];have c4:=c3 2;generalize rLf 2 n s2=p at *;obtain⟨t,q,ok⟩:=p;simp only[Qx]at c4 ⊢;simp only[Vo,Wh,Vp,Xr,Qz]at c4;rcases IQ (k:=40) (by decide) hq with rfl | ⟨e,he0,he40,hep,hene⟩
      ·simp[-getElem?_pos,Qr,Qv,f154C,hc0,hc63,hpos,hpos',hne,c1,c2,hd0,hd0',hnl,hs2,c4]
      ·have he40: ¬(e.toNat:Int)=40:=he40;simp[-getElem?_pos,Qr,Qv,f154C,hc0,hc63,hpos,hpos',hne,c1,c2,hd0,hd0',hnl,hs2,he0,he40,hep,hene,c4]
     ·rw[Qe (by simp)];obtain⟨he0,hep,hene⟩:=Mw hq;obtain⟨d',rfl⟩: ∃d',d=d'+1:=⟨d - 1,by omega⟩;have hKd:=hKK d' rfl;subst hKd;have hlp:=Mx hq;simp only[QO,QX]at hlp;have hL:=CZ d' (by omega) (hT d' rfl) n bs s2.length [] (s2.drop 1);have hle1:1<=s2.length:=by omega
      have hle1': (1:Int)<=(s2.length:Int):=by omega
      have hd1: ¬(d':Int)+1=0:=by omega
      simp only[Np]at hL;dsimp only
      try simp only[Np]
      simp[-getElem?_pos,Qr,Qv,f154C,hc0,hc63,hpos,hpos',hne,c1,c2,hd0,hd0',hnl,hs2,he0,hep,hene,hle1,hle1',hd1];rw[hL] <;> first | omega | (simp[Qz];done) | (simp;omega)
 ·obtain⟨hc0,hpos,hne⟩:=Mw hv;have hpos': (0:Int) < (s.length:Int):=by omega
  have hle0: (1:Int)<=(s.length:Int):=by omega
  rw[hv]at hs1;simp only[QF,Np]at hs1;simp only[QF,true_or,Qm];cases hnb:Q4 n
  ·rw[hnb]at c2;rw[Qh (.inl rfl)];simp[-getElem?_pos,Qr,Qv,f154C,hc0,hpos,hpos',hne,hle0,hs1,c1,c2,Ql,Qz]
  ·rw[hnb]at c2;by_cases hd0:d=0
   ·subst hd0;rw[Qh (.inr rfl)];simp[-getElem?_pos,Qr,Qv,f154C,hc0,hpos,hpos',hne,hle0,hs1,c1,c2,Ql,Qz]
   ·rw[Qe (by simp[hd0])];have hd0': ¬(d:Int)=0:=by omega
    have c4:=c3 1;generalize rLf 1 n s2=p at *;obtain⟨t,q,ok⟩:=p;simp only[Qx]at c4 ⊢;simp only[Vo,Wh,Vp,Xr,Qz]at c4;simp[-getElem?_pos,Qr,Qv,f154C,hc0,hpos,hpos',hne,hle0,hs1,c1,c2,hd0,hd0',hnl,hs2,c4]
def Bt: ∀d,d < 1000->Fi d
 | 0,h=>GC 0 h (fun d' h=>by omega)
 | d+1,h=>GC (d+1) h (fun d' e=>by cases e;exact Bt d (by omega))
def prR (s:Qb):Tm×Int:=
 let p:=rT 800 s
 if p.2.2=false\/p.2.1≠[]then(.mk 0 [] 0 [],2)else if QZ p.1≠0 then(.mk 0 [] 0 [],QZ p.1)else(p.1,0)
def QbR (s:Qb) (hs:s.length < 1000000) (bs:Qd):call tb 153 [.str s] bs=some (.tup [.agg (Ql (prR s).1),.int .i64 (prR s).2],bs):=by
 have c1:=Bt 800 (by decide) s bs hs;have hM:=NQ 800 s;unfold RM at hM;rw[zcc 153 rfl rfl];unfold prR;simp only;have c1':call tb 154 [.str s,.int .i64 800] bs=_:=c1;generalize rT 800 s=p at *;obtain⟨t,q,ok⟩:=p;simp only at c1' hM ⊢;have c2:=fun h=>Pk t bs (h:t.mass < big);cases ok
 ·rw[Qh (.inl rfl)];simp[f153C,c1',Ql,Qz]
 ·have hm:=hM.2 rfl;have c3:=c2 (by unfold big;omega);by_cases hq:q=[]
  ·subst hq;rw[Qe (by simp)];by_cases hv:QZ t=0
   ·rw[Qe (by simp[hv])];simp only[Qx]at c3 c1' ⊢;simp[f153C,c1',c3,hv]
   ·rw[Qh hv];simp[f153C,c1',c3,hv,Ql,Qz]
  ·rw[Qh (.inr hq)];have hq2: (q == [])=false:=by simpa using hq
   simp[f153C,c1',hq,hq2,Ql,Qz]
def Qas (s:Qb) (hs:s.length < 1000000): (prR s).1.mass < big:=by
 have hM:=NQ 800 s;unfold RM at hM;unfold prR;simp only;split
 ·simp[Tm.mass,Zs,big]
 ·rename_i hc;simp only[Vc,R8]at hc;split
  ·simp[Tm.mass,Zs,big]
  ·have:=hM.2 hc.1;unfold big;simp only;omega
end Go.Am
