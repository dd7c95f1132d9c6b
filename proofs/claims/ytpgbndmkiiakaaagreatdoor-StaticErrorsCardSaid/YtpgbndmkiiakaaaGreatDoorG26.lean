/-
  Sc27, Rc46, Rc47, Sc28, Sc29, Sc30, Sc31, AmMemo.
-/
import Derived.Test.YtpgbndmkiiakaaaGreatDoorG25
import Derived.Test.YtpgbndmkiiakaaaGreatDoorG21
import Derived.Test.YtpgbndmkiiakaaaGreatDoorG14
import Derived.KernelRfl
set_option linter.unusedVariables false
set_option linter.unusedSimpArgs false
namespace Go.Am
set_option maxRecDepth 8000
theorem MN: ∀{l:List Tm} {M:Nat},(∀x∈l,x.mass≤M)→massL l≤M*l.length
 | [],M,_=>by simp[massL]
 | x:: r,M,h=>by
  have h1:=h x (by simp);have h2:=MN (l:=r) (M:=M) fun y hy=>h y (by simp[hy]);simp only[massL,List.length_cons,Nat.mul_succ];omega
theorem T7 {f:Fr} (hv:QI f=0):f.s.length≤40:=by
 by_cases c:40 < f.s.length
 ·simp[QI,c]at hv
 ·omega
theorem Tn {x:Tm} (h:QF x=0) (hk:x.kind=2):x.mass≤30∧x.nodes=1∧x.name.length≤24:=by
 obtain⟨he,_,_⟩:=YX h;have hk2:=Uy he hk;have h1:=Qo x;have h2:=Z0 x;have h3:x.name.length≤24:=by
  obtain⟨k,n,s,ks⟩:=x;simp only[ZI]at he;split at he
  ·rename_i c;exact absurd he c
  ·rename_i c;exact(Ur (t:= .mk k n s ks) (by simpa using c)).1
 rw[hk2]at h1 h2;simp only[massL,nodesL,List.length_nil]at h1 h2;exact⟨by omega,by omega,h3⟩
theorem RG {f:Fr} (hv:QI f=0):ShN (f.s ++ f.t):=by
 intro a ha hk;rw[Nc,List.mem_append]at ha;rcases ha with ha | ha
 ·obtain⟨t,ht,hat⟩:=VB.1 ha;obtain⟨h1,h2,_⟩:=(W3 hv).2 t ht;have hk2:=Uy (YX h1).1 h2;rw[C3,hk2]at hat;simp only[allL,List.mem_singleton]at hat;subst hat;exact(Tn h1 h2).2.2
 ·have h3:=thV_allL (X6 hv) ha;exact(Tn (Zj h3).1 hk).2.2
theorem T6 {f:Fr} (hv:QI f=0):massL f.s≤1200∧massL f.t≤528000∧nodesL f.s≤1200∧nodesL f.t≤528000:=by
 have h1:=T7 hv;have h2:=Yy hv;have h3:=MN (l:=f.s) (M:=30) fun x hx=>by
  obtain⟨a,b,_⟩:=(W3 hv).2 x hx;exact(Tn a b).1
 have h4:=MN (l:=f.t) (M:=13200) fun x hx=>(Zj (X6 hv x hx)).2.2.2.1;have h5:=nodesL_le_mass f.s;have h6:=nodesL_le_mass f.t;omega
def Xc (f:Fr) (w:Tm):Tm:=MD (f.s ++ f.t) w.sort
def Wp (f:Fr) (w:Tm):Fr:=⟨f.s,f.t ++ [w]⟩
def Wg (f:Fr) (w:Tm):Fr:=⟨Zr (Xc f w) f.s,f.t ++ [Xc f w]⟩
theorem MH {f:Fr} (hv:QI f=0) (w:Tm): (Xc f w).mass≤30:=by
 have h:=(MC (RG hv) 24 0 rfl).2;simp only[Xc,MD,Tm.mass,massL,LF,List.length_nil];omega
theorem QfQ {f:Fr} (hv:QI f=0) (w:Tm):Xc f w ∉ f.s:=fun hm=>by
 have h:=(MC (RG hv) 24 0 rfl).1;have:Ui (f.s ++ f.t) (nmZ (Tg (f.s ++ f.t) 24 0))=true:=M6.2 ⟨Xc f w,by
  rw[Nc,List.mem_append];exact .inl (VB.2 ⟨_,hm,Md _⟩),rfl,rfl⟩
 rw[h]at this;cases this
theorem IE {f:Fr} (hf:FOk f) (hv:QI f=0) {w:Tm} (hw:w.mass≤30):FOk (Wp f w)∧massL (Wp f w).t < 1000000:=by
 obtain⟨a,b,_⟩:=T6 hv;have h2:=Yy hv;refine⟨⟨hf.s,fun x hx=> ?_,hf.sl,by simp only[Wp,List.length_append,List.length_singleton];omega⟩,by simp only[Wp,YT,massL];omega⟩;rcases List.mem_append.1 hx with hx | hx
 ·exact hf.t x hx
 ·rw[List.mem_singleton]at hx;subst hx;omega
theorem IF {f:Fr} (hf:FOk f) (hv:QI f=0) (w:Tm):FOk (Wg f w)∧massL (Wg f w).t < 1000000:=by
 obtain⟨a,b,_⟩:=T6 hv;have h1:=T7 hv;have h2:=Yy hv;have hz:=MH hv w;have hal:=U7 (Xc f w) f.s;refine⟨⟨fun x hx=> ?_,fun x hx=> ?_,by simp only[Wg];omega,by simp only[Wg,List.length_append,List.length_singleton];omega⟩,by simp only[Wg,YT,massL];omega⟩
 ·rcases Vg.1 hx with rfl | hx
  ·omega
  ·exact hf.s x hx
 ·rcases List.mem_append.1 hx with hx | hx
  ·exact hf.t x hx
  ·rw[List.mem_singleton]at hx;subst hx;omega
theorem Hp {f:Fr} (hv:QI f=0) (w:Tm):ZF (f.s ++ [Xc f w])=Zr (Xc f w) f.s:=by
 have ha:=(W3 hv).1;refine SR (TN ?_) (S5 ha) fun x=> ?_
 ·rw[List.nodup_append];refine⟨Rx ha,by simp,fun a ha b hb e=> ?_⟩;rw[List.mem_singleton]at hb;subst hb;subst e
  exact QfQ hv w ha
 ·rw[X7,Vg,List.mem_append,List.mem_singleton];exact Or.comm
def MG (f:Fr) (w:Tm):Tst×Int:=if Yv f≠0 then(Tr,Yv f)else if ZZ f.s w=false then(Tr,4)else WK (Wp f w) (Wg f w)
theorem Bv (f:Fr) (w:Tm) (hf:FOk f) (hv:QI f=0) (hw:w.mass≤30) (bs:List (List AV)):call F.tb 463 [.agg (Qj f),.agg (Qa w)] bs=some (.tup [.agg (Qj (Wp f w)),.agg (Qj (Wg f w))],bs):=by
 obtain⟨a,b,c,d⟩:=T6 hv;have h1:=T7 hv;have h2:=Yy hv;have hc:=Qjg f w.sort hf (by rw[List.length_append];omega) (by rw[YT];omega) (by rw[Yr];omega) (RG hv) bs;have hz:=MH hv w;have ez:MD (f.s ++ f.t) w.sort=Xc f w:=rfl;rw[ez]at hc;have ha:=fun o=>Nh f.s (Xc f w) o bs (by omega) (fun y hy=>by have:=hf.s y hy;unfold big;omega) (by unfold big;omega);have e1:=Qg w;have e2:=Qg (Xc f w);have hte:Qj f=[.sl false 4 (encTs f.s),.sl false 4 (encTs f.t)]:=rfl;have g1:Qj (Wp f w)=[.sl false 4 (encTs f.s),.sl false 4 (encTs f.t ++ [Qa w])]:=by simp[Qj,Wp,QP,Q7]
 have g2:Qj (Wg f w)=[.sl false 4 (encTs (Zr (Xc f w) f.s)),.sl false 4 (encTs f.t ++ [Qa (Xc f w)])]:=by simp[Qj,Wg,QP,Q7]
 have hb1:f.t.length*56≤140737488355328:=Yi (by omega);have hb2: (f.t.length+1)*56≤140737488355328:=Yi (by omega);have gp: ∀x:Tm,gpfreeE (encTs f.t ++ [Qa x])=true:=fun x=>by
  have h:=encTs_gp (f.t ++ [x]);rw[← QP]at h;simpa[encTs]using h
 have gpA:=gp w;have gpB:=gp (Xc f w);rw[e1]at gpA;rw[e2]at gpB;rw[Qb F.tb_463 _ _ rfl,g1,g2];rw[hte]at hc ⊢;rw[e2]at hc ha ⊢;rw[e1];generalize Xc f w=z at *;simp[F.f463C,hc,ha,hb1,hb2,gpA,gpB]
theorem Qjf (f:Fr) (w:Tm) (hf:FOk f) (hM:massL f.t < 1000000) (hw:w.mass < 1000000) (bs:List (List AV)):call F.tb 462 [.agg (Qj f),.agg (Qa w)] bs=some (Z3 (MG f w),bs):=by
 have h0:=OV f hf bs;have hsl:=hf.sl;have hh:=fun o=>S6 f.s w o bs (by omega) (fun y hy=>by have:=hf.s y hy;unfold big;omega) (by unfold big;omega);have e1:=Qg w;have hte:Qj f=[.sl false 4 (encTs f.s),.sl false 4 (encTs f.t)]:=rfl;rw[Qb F.tb_462 _ _ rfl];unfold MG;by_cases c0: ¬Yv f=0
 ·rw[if_pos c0];rw[hte]at h0 ⊢;simp[F.f462C,h0,c0,Z3,YY]
 have c0:=Decidable.not_not.1 c0;rw[if_neg (by simpa using c0)];have hv:=Xg c0;cases c1:ZZ f.s w
 ·rw[c1,e1]at hh;rw[if_pos rfl];rw[hte]at h0 ⊢;simp[F.f462C,h0,c0,e1,hh,Z3,YY]
 ·rw[if_neg (by simp)];have hwm:=WP.1 c1;obtain⟨v1,v2,_⟩:=(W3 hv).2 w hwm;have hw30:=(Tn v1 v2).1;have hc:=Bv f w hf hv hw30 bs;obtain⟨a1,a2⟩:=IE hf hv hw30;obtain⟨b1,b2⟩:=IF hf hv w;have hA:=Iu (Wp f w) (Wg f w) a1 a2 b1 b2 bs;have hg1:Qj (Wp f w)=[.sl false 4 (encTs (Wp f w).s),.sl false 4 (encTs (Wp f w).t)]:=rfl;have hg2:Qj (Wg f w)=[.sl false 4 (encTs (Wg f w).s),.sl false 4 (encTs (Wg f w).t)]:=rfl;rw[c1,e1]at hh;rw[hg1,hg2]at hc hA;rw[e1]at hc;rw[hte]at h0 hc ⊢;generalize WK (Wp f w) (Wg f w)=Z at *;obtain⟨q,e⟩:=Z;simp only[Z3]at hA ⊢;rw[ZM]at hA ⊢;simp[F.f462C,h0,c0,e1,hh,hc,hA]
theorem Qi3 (x w:Tm) (hx:x.mass < big) (hw:w.mass < big) (pos:Nat) (bs:List (List AV)) (hp:bs[pos]? =some (Qa w)):call F.tb 434 [.agg (Qa x),.gp pos 0] bs=some (.bool (decide (Qm x w=0)),bs):=by
 have h:=OT x w bs hx hw;have ea:=Qg x;have eb:=Qg w;rw[ea,eb]at h;rw[eb]at hp;rw[Qb F.tb_434 _ _ rfl];simp[F.f434C,ea,hp,h]
theorem QiO (l:List Tm) (bs:List (List AV)) (hl:l.length < 1000000):call F.tb 407 [.sl false 4 (encTs l)] bs=some (.sl true 4 (encTs l),bs):=by
 have hb:l.length*56≤140737488355328:=Yi (by omega);rw[Xv F.tb_407];simp[Ua,UQ,hb]
theorem Qns {B0 B:List (List AV)} {v:AV} {l:List Tm} (h:TS B0 B v l) (hne:l≠[]): ∃id M2,v= .gs id 0 4 l.length∧B[id]? =some (Qu l)∧(Qu l).length=l.length*4∧Yc (Qu l) 0 4 l.length=encTs l∧B.set id []=B0 ++ M2:=by
 obtain⟨M,id,sz,rfl,rfl,hc⟩:=h;rcases hc with⟨_,_,h⟩ | ⟨rfl,hid,_,hb⟩
 ·exact absurd h hne
 ·refine⟨id,_,rfl,hb,Z2 QR l,?_,Y2 hid _⟩;have:=XH (f:=Qa) (k:=4) QR Zu l [];rw[List.append_nil,Ut]at this;exact this
theorem Qi2 (f:Fr) (w:Tm) (hf:FOk f) (hM:massL f.t < 1000000) (hw:w.mass < 1000000) (bs:List (List AV)):call F.tb 433 [.agg (Qj f),.agg (Qa w)] bs=some (Z3 (MG f w),bs):=by
 have h0:=Iq f hf (bs ++ [Qa w]);have hsl:=hf.sl;have hh:=fun o=>W9 f.s 434 [.gp bs.length 0] (fun x=>decide (Qm x w=0)) o (bs ++ [Qa w]) hf.sl (by simp) (fun x hx=>Qi3 x w (by have:=hf.s x hx;unfold big;omega) (by unfold big;omega) bs.length _ (by simp));have eh: (f.s.any fun x=>decide (Qm x w=0))=ZZ f.s w:=rfl;rw[eh]at hh;have e1:=Qg w;have hte:Qj f=[.sl false 4 (encTs f.s),.sl false 4 (encTs f.t)]:=rfl;rw[Qb F.tb_433 _ _ rfl];unfold MG;by_cases c0: ¬Yv f=0
 ·rw[if_pos c0];rw[hte,e1]at h0;rw[hte,e1];simp[F.f433C,h0,c0,Z3,YY]
 have c0:=Decidable.not_not.1 c0;rw[if_neg (by simpa using c0)];have hv:=Xg c0;cases c1:ZZ f.s w
 ·rw[c1,e1]at hh;rw[if_pos rfl];rw[hte,e1]at h0;rw[hte,e1];simp[F.f433C,h0,c0,hh,Z3,YY]
 ·rw[if_neg (by simp)];have hwm:=WP.1 c1;obtain⟨v1,v2,_⟩:=(W3 hv).2 w hwm;have hw30:=(Tn v1 v2).1;obtain⟨m1,m2,m3,m4⟩:=T6 hv;have k1:=T7 hv;have k2:=Yy hv;have hfr:=Qi4 f w.sort hf (by rw[List.length_append];omega) (RG hv) (bs ++ [Qa w]);have ez:MD (f.s ++ f.t) w.sort=Xc f w:=rfl;rw[ez]at hfr;have hz:=MH hv w;obtain⟨a1,a2⟩:=IE hf hv hw30;obtain⟨b1,b2⟩:=IF hf hv w;have hcl:=fun B=>QiO f.t B hf.tl;obtain⟨v,B,hc,hT⟩:=DA f.s (bs ++ [Qa w]) hf.sl;obtain⟨v',B',ha,hT'⟩:=Dz (Xc f w) false hT hf.sl;obtain⟨B3,hs,hT3⟩:=IR hT' (by simp only[List.length_append,List.length_singleton];omega) (fun x hx=>by
   rcases List.mem_append.1 hx with hx | hx
   ·exact hf.s x hx
   ·rw[List.mem_singleton]at hx;subst hx;omega)
  obtain⟨id,sz,hvv⟩:=RU hT;obtain⟨id',M2,hv',hb',hrl,hch,hset⟩:=Qns hT3 (fun e=>by have:=Xj (f.s ++ [Xc f w]);rw[e]at this;simp at this);rw[Hp hv]at hv' hb' hrl hch;have hlen0: (Zr (Xc f w) f.s).length=f.s.length+1:=by rw[← Hp hv,Xj];simp
  have hA:=Io (Wp f w) (Wg f w) a1 a2 b1 b2 (bs ++ [Qa w]++ M2);have g1:Qj (Wp f w)=[.sl false 4 (encTs f.s),.sl false 4 (encTs f.t ++ [Qa w])]:=by simp[Qj,Wp,QP,Q7]
  have g2:Qj (Wg f w)=[.sl false 4 (encTs (Zr (Xc f w) f.s)),.sl false 4 (encTs f.t ++ [Qa (Xc f w)])]:=by simp[Qj,Wg,QP,Q7]
  have e2:=Qg (Xc f w);have hb2: (f.t.length+1)*56≤140737488355328:=Yi (by omega);have hgB: ∀X,(bs ++ [X])[bs.length]? =some X:=fun X=>List.getElem?_concat_length;have hkn: ¬(Zr (Xc f w) f.s).length=0:=by omega
  have hle: (Zr (Xc f w) f.s).length*4≤(Qu (Zr (Xc f w) f.s)).length:=by omega
  subst hvv;subst hv';rw[g1,g2]at hA;generalize WK (Wp f w) (Wg f w)=Z at *;obtain⟨q,e⟩:=Z;simp only[Z3]at hA ⊢;rw[ZM]at hA ⊢;rw[c1]at hh;rw[e2]at hfr ha hA;rw[hte]at h0 hfr ⊢;have hgt: (bs ++ [Qa w]++ M2).take bs.length=bs:=by simp
  rw[e1]at h0 hh hfr hc hA hgt hset;rw[e1];simp only[List.append_assoc,List.cons_append,List.nil_append]at hA hset hgt;generalize Qu (Zr (Xc f w) f.s)=c at *;generalize Zr (Xc f w) f.s=L at *;generalize hzz:Xc f w=z at *;simp[-getElem?_pos,Ya,List.getElem?_cons_succ,F.f433C,h0,c0,hh,hfr,hcl,hc,ha,hs,hb2,hgB,hkn,hb',hle,hch,hset,hA]
def GP (f:Fr) (t:Tm):Prop:=∀y∈QY t,YE f.t (Q0 f) y=0
theorem H6 {f:Fr} {n:List UInt8} {ks:List Tm} (hn:Xo n=false) (h: ∀x∈ks,GP f x):GP f (.mk 3 n 0 ks):=by
 intro y hy;simp only[QY]at hy;rcases List.mem_cons.1 hy with rfl | hy
 ·simp[YE,hn]
 ·obtain⟨t,ht,hyt⟩:=VB.1 hy;exact h t ht y hyt
theorem QdF {l:List Tm} {i k:Nat} (h:i < l.length):WX (Z5 (k+i)) k l≠none:=by
 induction l generalizing i k with
 | nil=>simp at h
 | cons t ts ih=>
  simp only[WX];split
  ·simp
  ·rename_i c;cases i with
   | zero=>exact absurd (Yn _) (by simpa using c)
   | succ i=>
    have:=ih (i:=i) (k:=k+1) (by simpa using h);rwa[show k+1+i=k+ (i+1) by omega]at this
theorem Qm3 {f:Fr} {i:Nat} (h:i < f.t.length):GP f (Z5 i):=by
 intro y hy;simp only[Z5,QY,allL,List.mem_singleton]at hy;subst hy;have h1:=QdF (k:=0) h;rw[Nat.zero_add]at h1;simp only[Z5]at h1;cases h2:WX (.mk 1 (119:: YI i) 0 []) 0 f.t with
 | none=>exact absurd h2 h1
 | some p=>
  have:ixT (.mk 1 (119:: YI i) 0 []) 0 f.t=p.1:=by simp[ixT,h2]
  simp[YE,this]
theorem QjT {f:Fr} (he: ∀t∈f.t,ZI t=0) {x:Tm} (hx:x∈Q0 f):GP f x:=by
 obtain⟨h1,h2,h3,h4⟩:=UA.1 hx;obtain⟨t,ht,hxt⟩:=VB.1 h1;obtain⟨_,_,_,n4⟩:=Ur (Mx t (he t ht) x hxt);have hk:=n4 (by omega);intro y hy;have hyx:y=x:=by
  cases x with
  | mk k n s ks=>
   simp only[QN]at hk;subst hk;simpa[QY,allL]using hy
 subst hyx;have ha: (Q0 f).any (eqB y)=true:=List.any_eq_true.2 ⟨y,hx,by simp[eqB,Yn]⟩;simp[YE,h2,ha,-List.any_eq_true]
theorem Nx {n:List UInt8} (h:Yq n=true) (us:List Tm):Yb n us=(.mk 3 n 0 us,0):=by
 simp only[Yq,Ul,Bool.and_eq_true,Bool.not_eq_true',Bool.or_eq_false_iff,beq_eq_false_iff_ne]at h;obtain⟨⟨⟨⟨⟨⟨h1,h2⟩,h3⟩,h4⟩,h5⟩,h6⟩,h7⟩:=h;unfold Yb;rw[if_neg (by rw[h7];simp),if_neg h1,if_neg (by simp[h4,h5,h6]),if_neg h3]
mutual
theorem Hy: ∀t:Tm,Q1 t=true→evG Yq t=true→Zk t=(t,0)
 | .mk k n s ks,hg,hf=>by
  rw[Rb,Bool.and_eq_true]at hf;obtain⟨h1,h2⟩:=hf;have hk:=normL_free ks (Xh hg) h2;unfold Zk;split
  ·rename_i hk3;have hs:=(XN hg hk3).1;simp only[Wu]at hs;subst hk3;subst hs;simp only[decide_true,Bool.not_true,Bool.false_or]at h1;rw[hk,if_pos rfl,Nx h1]
  ·rfl
theorem normL_free: ∀ts:List Tm,goodL ts=true→Nu Yq ts=true→normL ts=(ts,0)
 | [],_,_=>rfl
 | t:: ts,hg,hf=>by
  rw[My,Bool.and_eq_true]at hf;simp only[goodL,Bool.and_eq_true]at hg;unfold normL;rw[Hy t hg.1 hf.1,normL_free ts hg.2 hf.2];simp
end
def FG (t:Tm):Prop:=thV t=0∧evG Yq t=true
theorem SU {t:Tm} (h:FG t):Q1 t=true:=(Zj h.1).2.2.1
theorem BO {t:Tm} (h:FG t):Zk t=(t,0):=Hy t (SU h) h.2
theorem Ez {p:List UInt8→Bool}: ∀{ts:List Tm} {x:Tm},Nu p ts=true→x∈ts→evG p x=true
 | [],_,_,h=>by cases h
 | t:: ts,x,hf,h=>by
  rw[My,Bool.and_eq_true]at hf;rcases List.mem_cons.1 h with rfl | h
  ·exact hf.1
  ·exact Ez hf.2 h
theorem WW {t x:Tm} (h:FG t) (hx:x∈t.kids):FG x:=by
 refine⟨LM h.1 hx,?_⟩;obtain⟨k,n,s,ks⟩:=t;have h2:=h.2;rw[Rb,Bool.and_eq_true]at h2;exact Ez h2.2 hx
mutual
theorem Qdy: ∀{t x:Tm},FG t→x∈QY t→FG x
 | .mk k n s ks,x,h,hx=>by
  simp only[QY,List.mem_cons]at hx;rcases hx with rfl | hx
  ·exact h
  ·exact fg_allL (fun y hy=>WW h hy) hx
theorem fg_allL: ∀{ts:List Tm} {x:Tm},(∀y∈ts,FG y)→x∈allL ts→FG x
 | [],x,_,hx=>by simp[allL]at hx
 | t:: ts,x,h,hx=>by
  simp only[allL,List.mem_append]at hx;rcases hx with hx | hx
  ·exact Qdy (h t (by simp)) hx
  ·exact fg_allL (fun y hy=>h y (by simp[hy])) hx
end
theorem QfK {f:Fr} (h:Yv f=0): ∀x∈f.t,FG x:=fun x hx=>by
 have hv:=Xg h;refine⟨X6 hv x hx,?_⟩;unfold Yv at h;rw[if_neg (by simpa using hv)]at h;split at h
 ·cases h
 ·rename_i c;simp only[List.any_eq_true,not_exists,not_and,Bool.not_eq_true',Bool.not_eq_false]at c;have:=c x hx;simp only[Xb,Bool.and_eq_true]at this;exact this.2
theorem Qg8 {t:Tm} (h:FG t):evT t=true:=by
 rw[Lv,List.all_eq_true];intro x hx;have:=(Qdy h hx).2;obtain⟨k,n,s,ks⟩:=x;rw[Rb,Bool.and_eq_true]at this;have h1:=this.1;unfold ndN;by_cases c:k=3
 ·subst c;simp only[decide_true,Bool.not_true,Bool.false_or,Yq,Bool.and_eq_true]at h1;simpa using h1.2
 ·simp[c]
structure RcS (f:Fr) (r:Tm):Prop where
 e:ZI r=0
 c:Z8 r=0
 g:GP f r
theorem Uz {k:Int} {n:List UInt8} {s:Int} {ks:List Tm}:ZI (.mk k n s ks)=0↔Xd (.mk k n s ks)=0∧errL ks=0:=by
 simp only[ZI];split
 ·rename_i c;exact⟨fun h=>absurd h c,fun h=>absurd h.1 c⟩
 ·rename_i c;exact⟨fun h=>⟨by simpa using c,h⟩,fun h=>h.2⟩
theorem Td: ∀{ks:List Tm},errL ks=0↔∀x∈ks,ZI x=0
 | []=>by simp[errL]
 | t:: ts=>by
  simp only[errL];split
  ·rename_i c;exact⟨fun h=>absurd h c,fun h=>absurd (h t (by simp)) c⟩
  ·rename_i c;rw[Td (ks:=ts)];exact⟨fun h x hx=>by
    rcases List.mem_cons.1 hx with rfl | hx
    ·simpa using c
    ·exact h x hx,fun h x hx=>h x (by simp[hx])⟩
theorem Ta: ∀{ks:List Tm},chkL ks=0↔∀x∈ks,Z8 x=0
 | []=>by simp[chkL]
 | t:: ts=>by
  simp only[chkL];split
  ·rename_i c;exact⟨fun h=>absurd h c,fun h=>absurd (h t (by simp)) c⟩
  ·rename_i c;rw[Ta (ks:=ts)];exact⟨fun h x hx=>by
    rcases List.mem_cons.1 hx with rfl | hx
    ·simpa using c
    ·exact h x hx,fun h x hx=>h x (by simp[hx])⟩
theorem Qga {n:List UInt8} (h:Xo n=false): ¬(n=[115,107]∨n=[115,104,107])∧¬n=[110,101,119]:=by
 simp only[Xo,Bool.or_eq_false_iff,beq_eq_false_iff_ne,SK,SHK,NEW]at h;exact⟨fun c=>c.elim h.1.1 h.1.2,h.2⟩
def arE (n:List UInt8) (m:Nat):Int:=match Zs n YA with
 | none=>10
 | some y=>if(m:Int) < y.l∨y.m < m then 6 else 0
theorem S8 {n:List UInt8} {s:Int} {ks:List Tm} (hp:Xo n=false):Z8 (.mk 3 n s ks)=0↔arE n ks.length=0∧chkL ks=0:=by
 obtain⟨p1,p2⟩:=Qga hp;simp only[Z8,arE];rw[if_neg (by simp)];cases Zs n YA with
 | none=>simp
 | some y=>
  simp only;split
  ·simp
  ·rw[if_neg (fun h=>p1 h.1),if_neg (fun h=>p2 h.1)];simp
theorem Rj {k:Int} {n:List UInt8} {s:Int} {ks us:List Tm} (h:us.length=ks.length):Xd (.mk k n s us)=Xd (.mk k n s ks):=by
 have hl:us=[]↔ks=[]:=by rw[← List.length_eq_zero_iff,← List.length_eq_zero_iff,h]
 by_cases a:k=1∨k=2 <;> by_cases b:k=3 <;> by_cases d: (s < 0∨5 < s)∨0 < ks.length <;> by_cases e:8 < ks.length <;> by_cases g:Y6 n=false <;> simp[Xd,a,b,d,e,g,h]
theorem QjU {f:Fr} {t:Tm} (h:GP f t):YE f.t (Q0 f) t=0:=h t (Md t)
theorem Qm4 {f:Fr} {k:Int} {n:List UInt8} {s:Int} {ks:List Tm} (h:GP f (.mk k n s ks)) {x:Tm} (hx:x∈ks):GP f x:=fun y hy=>h y (by
 simp only[QY,List.mem_cons];exact .inr (VB.2 ⟨x,hx,hy⟩))
theorem QjV {f:Fr} {n:List UInt8} {s:Int} {ks:List Tm} (h:GP f (.mk 3 n s ks)):Xo n=false:=by
 have:=QjU h;cases c:Xo n
 ·rfl
 ·simp[YE,c]at this
mutual
theorem Qea {f:Fr} (hf: ∀x∈f.t,ZI x=0∧Z8 x=0): ∀r:Tm,ZI r=0→Z8 r=0→GP f r→ZI (Zv f.t r)=0∧Z8 (Zv f.t r)=0
 | .mk k n s ks,he,hc,hg=>by
  simp only[Zv];split
  ·split
   ·rename_i p hp;exact hf p.2 (Rd hp)
   ·exact⟨he,hc⟩
  ·obtain⟨h1,h2⟩:=Uz.1 he;by_cases hk:k=3
   ·subst hk;have hp:=QjV hg;obtain⟨c1,c2⟩:=(S8 hp).1 hc;obtain⟨a,b⟩:=putL_ok hf ks (Td.1 h2) (Ta.1 c2) (fun x hx=>Qm4 hg hx);refine⟨Uz.2 ⟨by rw[Rj (NG f.t ks)];exact h1,a⟩,(S8 hp).2 ⟨by rw[NG];exact c1,b⟩⟩
   ·obtain⟨_,_,_,hkn⟩:=Ur h1;have:=hkn (by simpa using hk);simp only[QN]at this;subst this;exact⟨he,hc⟩
theorem putL_ok {f:Fr} (hf: ∀x∈f.t,ZI x=0∧Z8 x=0): ∀l:List Tm,(∀x∈l,ZI x=0)→(∀x∈l,Z8 x=0)→(∀x∈l,GP f x)→errL (putL f.t l)=0∧chkL (putL f.t l)=0
 | [],_,_,_=>by simp[putL,errL,chkL]
 | t:: ts,he,hc,hg=>by
  obtain⟨a,b⟩:=Qea hf t (he t (by simp)) (hc t (by simp)) (hg t (by simp));obtain⟨c,d⟩:=putL_ok hf ts (fun x hx=>he x (by simp[hx])) (fun x hx=>hc x (by simp[hx])) (fun x hx=>hg x (by simp[hx]));simp[putL,errL,chkL,a,b,c,d]
end
theorem Lx {f a:List Tm}: ∀{l:List Tm},frE f a l=0↔∀x∈l,YE f a x=0
 | []=>by simp[frE]
 | t:: ts=>by
  simp only[frE];split
  ·rename_i c;exact⟨fun h=>absurd h c,fun h=>absurd (h t (by simp)) c⟩
  ·rename_i c;rw[Lx (l:=ts)];exact⟨fun h x hx=>by
    rcases List.mem_cons.1 hx with rfl | hx
    ·simpa using c
    ·exact h x hx,fun h x hx=>h x (by simp[hx])⟩
def NV (f:Fr) (r t:Tm):Prop:=Zk (Zv f.t r)=(t,0)
theorem QeM {t:Tm} (h:ZI t=0):QF t=0∨QF t=3:=by
 unfold QF;rw[if_neg (by simpa using h)];split
 ·exact .inr rfl
 ·exact .inl rfl
theorem Qed {f:Fr} (hv:QI f=0) {r:Tm} (hr:RcS f r) (hval:QF r=0):Vt f r=0:=by
 unfold Vt;have h1:thV r=0:=by unfold thV;rw[if_neg (by simpa using hval)];exact hr.c
 rw[if_neg (by simpa using hv),if_neg (by simpa using h1)];exact Lx.2 hr.g
theorem MR {f:Fr} (hv:Yv f=0) {r t:Tm} (hr:RcS f r) (hn:NV f r t) (ht:FG t) (hl:Yt f r=false):Zf f r=(t,0)∧Vt f r=0:=by
 have hvv:=Xg hv;have hval:QF r=0:=by
  unfold Yt at hl;split at hl
  ·cases hl
  ·rename_i c;simpa using c
 have hrig:=Qed hvv hr hval;have h3: ¬(Zf f r).2=3:=by
  unfold Yt at hl;rw[if_neg (by simpa using hval)]at hl;simpa using hl
 obtain⟨p1,p2⟩:=Qea (f:=f) (fun x hx=>by
  have:=Zj (X6 hvv x hx);exact⟨V1 (X6 hvv x hx),this.2.1⟩) r hr.e hr.c hr.g
 refine⟨?_,hrig⟩;have ht0:=(Zj ht.1).1;have hthv:thV (Zv f.t r)=0:=by
  rcases QeM p1 with h | h
  ·unfold thV;rw[if_neg (by simpa using h)];exact p2
  ·exfalso;apply h3;have:thV (Zv f.t r)=3:=by unfold thV;rw[if_pos (by rw[h];simp),h]
   unfold Zf Zg;rw[if_neg (by simpa using hrig),if_pos (by rw[this];simp),this];simp
 have hnv:Zg (Zv f.t r)=(t,0):=by
  unfold Zg;rw[if_neg (by simpa using hthv)];unfold NV at hn;rw[hn];simp[ht0]
 unfold Zf;rw[if_neg (by simpa using hrig),hnv];simp[Qg8 ht]
def EV (f:Fr) (l:List Rp):Prop:=∀x∈l,RcS f x.b∧NV f x.b x.t∧FG x.t∧Yt f x.b=false
theorem Qd9 {f:Fr} {t:Tm} (h:FG t) (hp:ZK t=true):RcS f t∧NV f t t:=by
 have h1:=Zj h.1;obtain⟨k,n,s,ks⟩:=t;have h2:=h.2;rw[Rb,Bool.and_eq_true]at h2;by_cases hk:k=3
 ·subst hk;exfalso;have h3:=h2.1;simp only[decide_true,Bool.not_true,Bool.false_or,Yq,Bool.and_eq_true,Bool.not_eq_true']at h3;unfold ZK at hp;simp only[YJ,if_true,Q5,Bool.and_eq_true,Bool.or_eq_true,beq_iff_eq]at hp;rcases hp.1 with e | e
  ·subst e;exact absurd h3.1 (by decide)
  ·subst e;exact absurd h3.1 (by decide)
 ·have hk2:k=2:=by
   by_cases c:k=2
   ·exact c
   ·simp[ZK,hk,c]at hp
  subst hk2;have he:=V1 h.1;have hks:=Uy he rfl;simp only[QN]at hks;subst hks;refine⟨⟨he,h1.2.1,fun y hy=> ?_⟩,?_⟩
  ·simp only[QY,allL,List.mem_singleton]at hy;subst hy;simp[YE,hp]
  ·unfold NV;simp[Zv,putL,Zk]
theorem H7 {f:Fr} {n:List UInt8} {us ks:List Tm} (h:normL (putL f.t us)=(ks,0)):Zk (Zv f.t (.mk 3 n 0 us))=Yb n ks:=by
 have e:Zv f.t (.mk 3 n 0 us)= .mk 3 n 0 (putL f.t us):=by simp[Zv]
 rw[e];unfold Zk;rw[if_pos rfl,h,if_pos rfl]
theorem Qdd {n:List UInt8} (h:V4.contains n=true):Xo n=false:=by
 simp only[V4,List.contains_cons,List.contains_nil,Bool.or_false,Bool.or_eq_true,beq_iff_eq]at h;rcases h with rfl | rfl | rfl | rfl | rfl | rfl <;> decide
theorem Qc5 {f:Fr} {l:List Rp} {t:Tm} (h:FG t) {us:List Tm} (hc:isN t V4=true) (hl:us.length=t.kids.length) (h1: ∀u∈us,RcS f u) (h2:normL (putL f.t us)=(t.kids,0)):RcS f (.mk 3 t.name 0 us)∧NV f (.mk 3 t.name 0 us) t:=by
 unfold isN at hc;rw[Bool.and_eq_true,decide_eq_true_eq]at hc;have hp:=Qdd hc.2;have hs:=(XN (SU h) hc.1).1;have hx:=h.2;obtain⟨k,n,s,ks⟩:=t;simp only[YJ,Wu,Q5,QN]at hc hs hp hl h2;obtain⟨rfl,_⟩:=hc;subst hs;obtain⟨a1,a2⟩:=Uz.1 (V1 h.1);obtain⟨b1,b2⟩:=(S8 hp).1 (Zj h.1).2.1;rw[Rb,Bool.and_eq_true]at hx;have hfr:Yq n=true:=by have:=hx.1;simpa using this
 refine⟨⟨Uz.2 ⟨by rw[Rj hl];exact a1,Td.2 fun x hx=>(h1 x hx).e⟩,(S8 hp).2 ⟨by rw[hl];exact b1,Ta.2 fun x hx=>(h1 x hx).c⟩,H6 hp fun x hx=>(h1 x hx).g⟩,?_⟩;unfold NV;rw[H7 h2];exact Nx hfr ks
mutual
theorem Qax {f:Fr} {l:List Rp} (hE:EV f l): ∀(t u:Tm),FG t→ofT l t=some u→RcS f u∧NV f u t
 | .mk k n s ks,u,h,ho=>by
  rw[MS]at ho;cases hf:XE l (.mk k n s ks)with
  | some b=>
   rw[hf]at ho;injection ho with ho
   subst ho;unfold XE at hf;cases hq:l.find? fun x=>decide (Qm x.t (.mk k n s ks)=0)with
   | none=>rw[hq]at hf;cases hf
   | some x=>
    rw[hq]at hf;simp only[Option.map_some,Option.some.injEq]at hf;subst hf;have hc:=List.find?_some hq;simp only[decide_eq_true_eq]at hc;have:=ZY _ _ hc;obtain⟨a,b,_⟩:=hE x (List.mem_of_find?_eq_some hq);rw[← this];exact⟨a,b⟩
  | none=>
   rw[hf]at ho;simp only at ho;split at ho
   ·rename_i hp;injection ho with ho
    subst ho;exact Qd9 h hp
   ·unfold Xt at ho;split at ho
    ·rename_i hc;simp only[QN,Q5]at ho;cases hl:ofL l ks with
     | none=>rw[hl]at ho;cases ho
     | some us=>
      rw[hl]at ho;simp only[Option.map_some,Option.some.injEq]at ho;subst ho;obtain⟨a,b⟩:=ofL_ok hE ks us (fun x hx=>WW h hx) hl;exact Qc5 (l:=l) h hc (ofL_len hl) a b
    ·cases ho
theorem ofL_ok {f:Fr} {l:List Rp} (hE:EV f l): ∀(ts us:List Tm),(∀x∈ts,FG x)→ofL l ts=some us→(∀u∈us,RcS f u)∧normL (putL f.t us)=(ts,0)
 | [],us,_,h=>by simp[ofL]at h;subst h;simp[putL,normL]
 | t:: ts,us,hg,h=>by
  rw[Rl]at h;cases h1:ofT l t with
  | none=>rw[h1]at h;cases h
  | some u=>
   rw[h1]at h;cases h2:ofL l ts with
   | none=>rw[h2]at h;cases h
   | some vs=>
    rw[h2]at h;simp only[Option.map_some,Option.some.injEq]at h;subst h;obtain⟨a,b⟩:=Qax hE t u (hg t (by simp)) h1;obtain⟨c,d⟩:=ofL_ok hE ts vs (fun x hx=>hg x (by simp[hx])) h2;refine⟨fun x hx=> ?_,?_⟩
    ·rcases List.mem_cons.1 hx with rfl | hx
     ·exact a
     ·exact c x hx
    ·unfold NV at b;simp[putL,normL,b,d]
end
theorem Qmm {f:Fr} {l:List Rp} (hE:EV f l) {t u:Tm} (h:FG t) (ho:Xt l t=some u):RcS f u∧NV f u t:=by
 unfold Xt at ho;split at ho
 ·rename_i hc;cases hl:ofL l t.kids with
  | none=>rw[hl]at ho;cases ho
  | some us=>
   rw[hl]at ho;simp only[Option.map_some,Option.some.injEq]at ho;subst ho;obtain⟨a,b⟩:=ofL_ok hE t.kids us (fun x hx=>WW h hx) hl;exact Qc5 (l:=l) h hc (ofL_len hl) a b
 ·cases ho
theorem Je {n:List UInt8} (h:Yw n=true) (us:List Tm):Yb n us=(QL n us,0):=by unfold Yb;rw[if_pos h]
theorem Ls {f:Fr} {n:List UInt8} (hn:n=FST∨n=SND∨n=READ) {r t:Tm} (hr:RcS f r) (hv:NV f r t):RcS f (.mk 3 n 0 [r])∧NV f (.mk 3 n 0 [r]) (QL n [t]):=by
 have hp:Xo n=false:=by rcases hn with rfl | rfl | rfl <;> decide
 have hd:Yw n=true:=by rcases hn with rfl | rfl | rfl <;> decide
 have hne:Xd (.mk 3 n 0 [Qw])=0:=by rcases hn with rfl | rfl | rfl <;> decide
 have har:arE n 1=0:=by rcases hn with rfl | rfl | rfl <;> decide
 refine⟨⟨Uz.2 ⟨(Rj (us:=[r]) (ks:=[Qw]) rfl).trans hne,Td.2 (by simpa using hr.e)⟩,(S8 hp).2 ⟨har,Ta.2 (by simpa using hr.c)⟩,H6 hp (by simpa using hr.g)⟩,?_⟩;unfold NV at hv ⊢;rw[H7 (ks:=[t]) (by simp[putL,normL,hv]),Je hd]
theorem Iz {f:Fr} {n:List UInt8} (hn:n=DEC∨n=Q6∨n=QV) {r t u k:Tm} (hr:RcS f r) (hv:NV f r t) (hu:RcS f u) (hk:NV f u k):RcS f (.mk 3 n 0 [r,u])∧NV f (.mk 3 n 0 [r,u]) (QL n [t,k]):=by
 have hp:Xo n=false:=by rcases hn with rfl | rfl | rfl <;> decide
 have hd:Yw n=true:=by rcases hn with rfl | rfl | rfl <;> decide
 have hne:Xd (.mk 3 n 0 [Qw,Qw])=0:=by rcases hn with rfl | rfl | rfl <;> decide
 have har:arE n 2=0:=by rcases hn with rfl | rfl | rfl <;> decide
 refine⟨⟨Uz.2 ⟨(Rj (us:=[r,u]) (ks:=[Qw,Qw]) rfl).trans hne,Td.2 (by simp[hr.e,hu.e])⟩,(S8 hp).2 ⟨har,Ta.2 (by simp[hr.c,hu.c])⟩,H6 hp (by
  intro x hx;simp only[List.mem_cons,List.mem_nil_iff,or_false]at hx;rcases hx with rfl | rfl
  ·exact hr.g
  ·exact hu.g)⟩,?_⟩
 unfold NV at hv hk ⊢;rw[H7 (ks:=[t,k]) (by simp[putL,normL,hv,hk]),Je hd]
theorem Qke {f:Fr} {l:List Rp} (hE:EV f l) {x:Rp} (hx:x∈l) (hL:Tj f (Zc l x)=false):EV f (Zc l x):=by
 obtain⟨hr,hn,hg,_⟩:=hE x hx;have hgd:=SU hg;have hl: ∀y∈Zc l x,Yt f y.b=false:=fun y hy=>by
  have:=List.any_eq_false.1 hL y hy;simpa using this
 intro y hy;have hly:=hl y hy;unfold Zc at hy;cases c1:isB x.t Ze
 ·rw[c1]at hy;simp only[Bool.false_eq_true,if_false]at hy;cases c2:isB x.t Q2
  ·rw[c2]at hy;simp only[Bool.false_eq_true,if_false]at hy;by_cases c3: (ZN x.t).2=0
   ·rw[if_neg (by simpa using c3)]at hy;cases c4:ofT l (ZN x.t).1 with
    | none=>rw[c4]at hy;cases hy
    | some u=>
     rw[c4]at hy;simp only[List.mem_singleton]at hy;obtain⟨hth,hea⟩:=LB c3;cases c5:isB x.t ENC
     ·have hae:isB x.t Zb=true:=hea.elim (fun h=>by rw[c5]at h;cases h) id;obtain⟨a,b,hk⟩:=Q3 hgd hae (by simp[Q8]);obtain⟨k0,k1⟩:=SW hk;have hgb:FG b:=WW hg (by rw[hk];simp);have hga:FG a:=WW hg (by rw[hk];simp);have c6:isB b PK=true:=by
       unfold ZN at c3;rw[if_neg (by simpa using hth),c5,hae,k1]at c3;cases h:isB b PK
       ·rw[h]at c3;simp at c3
       ·rfl
      obtain⟨z,hz⟩:=Ki (SU hgb) c6 (by simp[Q8,PK,Ze,ENC,Zb,Q2,EXP,DEC,Q6,QV]);have kz:kid b 0=z:=by simp[kid,hz]
      have hkey: (ZN x.t).1=z:=by
       unfold ZN;rw[if_neg (by simpa using hth),c5,hae,k1,c6];simp[kz]
      have hgz:FG z:=WW hgb (by rw[hz];simp);rw[hkey]at c4;obtain⟨u1,u2⟩:=Qax hE z u hgz c4;rw[hae]at hy;simp only[if_true]at hy;obtain⟨d1,d2⟩:=Iz (n:=Q6) (.inr (.inl rfl)) hr hn u1 u2;have hbz:b=pkT z:=by
       obtain⟨hbk,hbn⟩:=Ti.1 c6;have hbs:=(XN (SU hgb) hbk).1;rw[← Tm.eta b,hbk,hbn,hbs,hz];rfl
      have e:QL Q6 [x.t,z]=a:=by
       have hc:Qm b (pkT z)=0:=by rw[hbz];exact Yn _
       simp[QL,hae,k0,k1,hc,SND,FST,DEC,Q6]
      rw[e]at d2;subst hy;exact⟨d1,by rw[k0];exact d2,by rw[k0];exact hga,hly⟩
     ·obtain⟨a,b,hk⟩:=Q3 hgd c5 (by simp[Q8]);obtain⟨k0,k1⟩:=SW hk;have hgb:FG b:=WW hg (by rw[hk];simp);have hga:FG a:=WW hg (by rw[hk];simp);have hae:isB x.t Zb=false:=by
       obtain⟨_,hn⟩:=Ti.1 c5;unfold isB;rw[hn];simp[ENC,Zb]
      have hkey: (ZN x.t).1=b:=by
       unfold ZN;rw[if_neg (by simpa using hth),c5,k1];simp
      rw[hkey]at c4;obtain⟨u1,u2⟩:=Qax hE b u hgb c4;rw[hae]at hy;simp only[Bool.false_eq_true,if_false]at hy;obtain⟨d1,d2⟩:=Iz (n:=DEC) (.inl rfl) hr hn u1 u2;have e:QL DEC [x.t,b]=a:=by
       simp[QL,c5,k0,k1,Yn,SND,FST,DEC]
      rw[e]at d2;subst hy;exact⟨d1,by rw[k0];exact d2,by rw[k0];exact hga,hly⟩
   ·rw[if_pos (by simpa using c3)]at hy;cases hy
  ·rw[c2]at hy;simp only[if_true,List.mem_singleton]at hy;obtain⟨a,b,hk⟩:=Q3 hgd c2 (by simp[Q8]);obtain⟨k0,k1⟩:=SW hk;obtain⟨d1,d2⟩:=Ls (n:=READ) (.inr (.inr rfl)) hr hn;have e:QL READ [x.t]=a:=by simp[QL,c2,k0,SND,FST,DEC,Q6,QV,READ]
   rw[e]at d2;subst hy;exact⟨d1,by rw[k0];exact d2,by rw[k0];exact WW hg (by rw[hk];simp),hly⟩
 ·rw[c1]at hy;simp only[if_true,List.mem_cons,List.mem_nil_iff,or_false]at hy;obtain⟨a,b,hk⟩:=Q3 hgd c1 (by simp[Q8]);obtain⟨k0,k1⟩:=SW hk;rcases hy with rfl | rfl
  ·obtain⟨d1,d2⟩:=Ls (n:=FST) (.inl rfl) hr hn;have e:QL FST [x.t]=a:=by simp[QL,c1,k0]
   rw[e]at d2;exact⟨d1,by rw[k0];exact d2,by rw[k0];exact WW hg (by rw[hk];simp),hly⟩
  ·obtain⟨d1,d2⟩:=Ls (n:=SND) (.inr (.inl rfl)) hr hn;have e:QL SND [x.t]=b:=by simp[QL,c1,k1,SND,FST]
   rw[e]at d2;exact⟨d1,by rw[k1];exact d2,by rw[k1];exact WW hg (by rw[hk];simp),hly⟩
theorem QfN {l:List Tm} {i k:Nat} {t:Tm} (h:l[i]? =some t): ∃p,WX (Z5 (k+i)) k l=some p∧(p.1=k+i∧p.2=t∨p.1 < k+i∧Qm (Z5 p.1) (Z5 (k+i))=0):=by
 induction l generalizing i k with
 | nil=>simp at h
 | cons u us ih=>
  simp only[WX];cases i with
  | zero=>
   simp only[List.getElem?_cons_zero,Option.some.injEq]at h;subst h;rw[Nat.add_zero,if_pos (Yn _)];exact⟨_,rfl,.inl ⟨rfl,rfl⟩⟩
  | succ i=>
   split
   ·rename_i c;exact⟨_,rfl,.inr ⟨by simp only;omega,c⟩⟩
   ·obtain⟨p,h1,h2⟩:=ih (i:=i) (k:=k+1) (by simpa using h);rw[show k+1+i=k+ (i+1) by omega]at h1 h2;exact⟨p,h1,h2⟩
theorem QjW {i j:Nat} (h:Qm (Z5 i) (Z5 j)=0):i=j:=by
 have:=ZY _ _ h;simp only[Z5,Tm.mk.injEq,List.cons.injEq,true_and,and_true]at this;exact Qfr this
theorem Qkj {f:Fr} {i:Nat} {t:Tm} (h:f.t[i]? =some t):Zv f.t (Z5 i)=t:=by
 obtain⟨p,h1,h2⟩:=QfN (k:=0) h;rw[Nat.zero_add]at h1 h2;have e:p.2=t:=by
  rcases h2 with⟨_,e⟩ | ⟨a,b⟩
  ·exact e
  ·have:=QjW b;omega
 simp only[Z5]at h1 ⊢;simp only[Zv,if_true,h1,e]
theorem QdP {i:Nat} (h:i < 1000000000):QF (Z5 i)=0∧ZI (Z5 i)=0:=by
 have h1:=VS 9 i (by omega);have h2:=Qde i;have hn:Y6 (119:: YI i)=true:=by
  have h3: (YI i).length < 24:=by omega
  have h4:Vh 119=true:=by decide
  simp[Y6,h3,h4,-List.all_eq_true,h2]
 have he:ZI (Z5 i)=0:=Uz.2 ⟨by simp[Xd,hn],rfl⟩;refine⟨?_,he⟩;unfold QF;rw[if_neg (by simpa using he),if_neg];simp[Z5,Tm.nodes,Tm.depth,nodesL,depthL]
theorem Qm8 {f:Fr} {r:Tm} {v:Tm×Int} (h1:QF r=0) (h2:Zf f r=v) (h3:v.2≠3):Yt f r=false:=by
 unfold Yt;rw[if_neg (by simpa using h1),h2];simpa using h3
theorem IV {f:Fr} (hv:Yv f=0) {r t:Tm} (hr:RcS f r) (h1:QF r=0) (hp:Zv f.t r=t) (ht:FG t):NV f r t∧Yt f r=false:=by
 have hn:NV f r t:=by unfold NV;rw[hp];exact BO ht
 refine⟨hn,?_⟩;have hrig:=Qed (Xg hv) hr h1;have hnv:Zg t=(t,0):=by
  unfold Zg;rw[if_neg (by simpa using ht.1),BO ht];simp[(Zj ht.1).1]
 have e:Zf f r=(t,0):=by
  unfold Zf;rw[if_neg (by simpa using hrig),hp,hnv];simp[Qg8 ht]
 exact Qm8 h1 e (by simp)
theorem F0 {f:Fr} {t:Tm} (hk:t.kind=2) (hks:t.kids=[]):Zv f.t t=t:=by
 obtain⟨k,n,s,ks⟩:=t;simp only[YJ,QN]at hk hks;subst hk;subst hks
 simp[Zv,putL]
theorem Qjl {f:Fr} (hv:Yv f=0):EV f (Z4 f):=by
 have hvv:=Xg hv;have hl:=Yy hvv;have hfg:=QfK hv;intro x hx;unfold Z4 at hx;rcases List.mem_append.1 hx with hx | hx
 ·have key: ∀(l pre:List Tm) (x:Rp),f.t=pre ++ l→x∈Ym pre.length l→∃i,f.t[i]? =some x.t∧x.b=Z5 i∧i < f.t.length:=by
   intro l
   induction l with
   | nil=>intro pre x _ h;simp[Ym]at h
   | cons u us ih=>
    intro pre x hk h;simp only[Ym,List.mem_cons]at h;rcases h with rfl | h
    ·exact⟨pre.length,Qp hk,rfl,by rw[hk];simp⟩
    ·exact ih (pre ++ [u]) x (by rw[hk];simp) (by simpa using h)
  obtain⟨i,h1,h2,h3⟩:=key f.t [] x rfl hx;have ht:FG x.t:=hfg x.t (List.mem_of_getElem? h1);obtain⟨a,b⟩:=QdP (i:=i) (by omega);have hr:RcS f (Z5 i):=⟨b,rfl,Qm3 h3⟩;obtain⟨c,d⟩:=IV hv hr a (Qkj h1) ht;rw[h2];exact⟨hr,c,ht,d⟩
 ·obtain⟨a,ha,rfl⟩:=List.mem_map.1 hx;obtain⟨h1,h2,_⟩:=UA.1 ha;have ht:FG a:=fg_allL hfg h1;have hi:=Zj ht.1;have hr:RcS f a:=⟨V1 ht.1,hi.2.1,QjT (fun t ht=>V1 (X6 hvv t ht)) ha⟩;obtain⟨c,d⟩:=IV hv hr hi.1 (F0 h2 (Uy (V1 ht.1) h2)) ht;exact⟨hr,c,ht,d⟩
theorem Qgt {l:List Rp} {os:List Nat} {q:Nat×List Rp}: ∀(post pre:List Rp),l=pre ++ post→XI l os post pre.length=some q→∃x∈l,q.2=Zc l x:=by
 intro post
 induction post with
 | nil=>intro pre _ h;simp[XI]at h
 | cons y post IH=>
  intro pre hk h;unfold XI at h;split at h
  ·exact IH (pre ++ [y]) (by rw[hk];simp) (by simpa using h)
  ·exact⟨y,by rw[hk];simp,by injection h with h;rw[← h]⟩
theorem BJ {f:Fr}: ∀{n:Nat} {l m:List Rp} {os:List Nat},EV f l→XZ f n l os=some m→EV f m
 | 0,l,m,os,_,h=>by cases h
 | n+1,l,m,os,hE,h=>by
  unfold XZ at h;cases hs:XI l os l 0 with
  | none=>rw[hs]at h;injection h with h;subst h;exact hE
  | some q=>
   rw[hs]at h;simp only at h;split at h
   ·cases h
   ·rename_i hL;obtain⟨x,hx,e⟩:=Qgt l [] rfl hs;rw[e]at h hL;have h2:=Qke hE hx (by simpa using hL);refine BJ (fun y hy=> ?_) h;rcases List.mem_append.1 hy with hy | hy
    ·exact hE y hy
    ·exact h2 y hy
theorem Qjm {f:Fr} (hv:Yv f=0) {m:List Rp} (h:Vs f=some m):EV f m:=BJ (Qjl hv) h
def VP (f:Fr) (r t:Tm):Prop:=Zf f r=(t,0)∧Vt f r=0
theorem Qg6 {f:Fr} (hv:Yv f=0) {l:List Rp} (hE:EV f l) {x:Rp} (hx:x∈l):VP f x.b x.t:=by
 obtain⟨a,b,c,d⟩:=hE x hx;exact MR hv a b c d
theorem QgI {f:Fr} (hv:Yv f=0) {l:List Rp} (hE:EV f l) {x:Rp} (hx:x∈l) {i:Nat} {g:Bool} (hL:Rg f l x=false): ∀q∈YH l x i g,q.f=false∧∃t,VP f q.l t∧VP f q.r t:=by
 obtain⟨hr,hn,hg,hlr⟩:=hE x hx;have hxv:=Qg6 hv hE hx;have hm: ∀y∈Wj l x,Yt f y=false:=fun y hy=>by
  have:=List.any_eq_false.1 hL y hy;simpa using this
 intro q hq;unfold YH at hq;simp only[List.mem_append]at hq;rcases hq with(((hq | hq) | hq) | hq) | hq
 ·unfold tsA at hq;obtain⟨y,hy,rfl⟩:=List.mem_map.1 hq;obtain⟨hy1,hy2⟩:=List.mem_filter.1 hy;have e:=ZY _ _ (by simpa using hy2);have:=Qg6 hv hE (List.mem_of_mem_take hy1);rw[e]at this;exact⟨rfl,x.t,hxv,this⟩
 ·unfold tsB at hq;split at hq
  ·rename_i hp;rw[List.mem_singleton]at hq;subst hq
   obtain⟨a,b⟩:=Qd9 (f:=f) hg hp;have hk2:x.t.kind=2:=by
    by_cases c3:x.t.kind=3
    ·exfalso;have h2:=hg.2;generalize x.t=t at *;obtain⟨k,n,s,ks⟩:=t;simp only[YJ]at c3;subst c3;rw[Rb,Bool.and_eq_true]at h2;have h3:=h2.1;simp only[decide_true,Bool.not_true,Bool.false_or,Yq,Bool.and_eq_true,Bool.not_eq_true']at h3;unfold ZK at hp;simp only[YJ,if_true,Q5,Bool.and_eq_true,Bool.or_eq_true,beq_iff_eq]at hp;rcases hp.1 with e | e
     ·subst e;exact absurd h3.1 (by decide)
     ·subst e;exact absurd h3.1 (by decide)
    ·by_cases c:x.t.kind=2
     ·exact c
     ·simp[ZK,c3,c]at hp
   obtain⟨c,d⟩:=IV hv a (Zj hg.1).1 (F0 hk2 (Uy (V1 hg.1) hk2)) hg;exact⟨rfl,x.t,hxv,MR hv a c hg d⟩
  ·cases hq
 ·unfold tsC at hq;cases c:Xt l x.t with
  | none=>rw[c]at hq;cases hq
  | some u=>
   rw[c,List.mem_singleton]at hq;subst hq
   obtain⟨a,b⟩:=Qmm hE hg c;exact⟨rfl,x.t,hxv,MR hv a b hg (hm u (by simp[Wj,Vf,c]))⟩
 ·unfold tsD at hq;split at hq
  ·rw[List.mem_singleton]at hq;subst hq;exact⟨rfl,x.t,hxv,hxv⟩
  ·cases hq
 ·unfold tsE at hq;cases c:Vu l x with
  | none=>rw[c]at hq;cases hq
  | some v=>
   rw[c,List.mem_singleton]at hq;subst hq
   have h1:=hm v (by simp[Wj,XP,c]);have h2:=hm (.mk 3 READ 0 [x.b]) (by simp[Wj,XP,c]);unfold Vu at c;cases cs:isB x.t Q2
   ·rw[cs]at c;cases c
   ·rw[cs]at c;simp only[if_true]at c;obtain⟨a,z,hk⟩:=Q3 (SU hg) cs (by simp[Q8]);obtain⟨k0,k1⟩:=SW hk;have hga:FG a:=WW hg (by rw[hk];simp);have hgz:FG z:=WW hg (by rw[hk];simp);rw[k1]at c;cases c2:ofT l (.mk 3 PK 0 [z])with
    | none=>rw[c2]at c;cases c
    | some u=>
     rw[c2]at c;simp only[Option.map_some,Option.some.injEq]at c;subst c;obtain⟨d1,d2⟩:=Ls (n:=READ) (.inr (.inr rfl)) hr hn;have e:QL READ [x.t]=a:=by simp[QL,cs,k0,SND,FST,DEC,Q6,QV,READ]
     rw[e]at d2;have hvr:=MR hv d1 d2 hga h2;have hru:RcS f u∧NV f u (pkT z):=by
      rw[MS]at c2;cases hf:XE l (.mk 3 PK 0 [z])with
      | some b=>
       rw[hf]at c2;injection c2 with c2
       subst c2;unfold XE at hf;cases hq:l.find? fun y=>decide (Qm y.t (.mk 3 PK 0 [z])=0)with
       | none=>rw[hq]at hf;cases hf
       | some y=>
        rw[hq]at hf;simp only[Option.map_some,Option.some.injEq]at hf;subst hf;have hc:=List.find?_some hq;simp only[decide_eq_true_eq]at hc;have hyt:=ZY _ _ hc;obtain⟨a1,a2,_⟩:=hE y (List.mem_of_find?_eq_some hq);rw[hyt]at a2;exact⟨a1,a2⟩
      | none=>
       rw[hf]at c2;have hnp:ZK (.mk 3 PK 0 [z])=false:=by simp[ZK,PK,Zy,ONE]
       rw[hnp]at c2;simp only[Bool.false_eq_true,if_false]at c2;unfold Xt at c2;have hcn:isN (.mk 3 PK 0 [z]) V4=true:=by show(decide ((3:Int)=3) && V4.contains PK)=true;decide
       rw[hcn]at c2;simp only[if_true,QN,Q5]at c2;cases hl:ofL l [z]with
       | none=>rw[hl]at c2;cases c2
       | some us=>
        rw[hl]at c2;simp only[Option.map_some,Option.some.injEq]at c2;subst c2;obtain⟨b1,b2⟩:=ofL_ok hE [z] us (by simpa using hgz) hl;have hul:=ofL_len hl;have hp:Xo PK=false:=by decide
        have hne:Xd (.mk 3 PK 0 [Qw])=0:=by decide
        refine⟨⟨Uz.2 ⟨(Rj (us:=us) (ks:=[Qw]) hul).trans hne,Td.2 fun y hy=>(b1 y hy).e⟩,(S8 hp).2 ⟨by rw[hul];show arE PK 1=0;decide,Ta.2 fun y hy=>(b1 y hy).c⟩,H6 hp fun y hy=>(b1 y hy).g⟩,?_⟩;unfold NV;rw[H7 b2];exact Nx (n:=PK) (by decide) _
     obtain⟨e1,e2⟩:=Iz (n:=QV) (.inr (.inr rfl)) hr hn hru.1 hru.2;have e3:QL QV [x.t,pkT z]=a:=by
      simp[QL,cs,k0,k1,Yn,SND,FST,DEC,Q6,QV]
     rw[e3]at e2;exact⟨rfl,a,MR hv e1 e2 hga h1,hvr⟩
theorem QeG {f:Fr} (hv:Yv f=0) {l:List Rp} (hE:EV f l) {g:Nat}: ∀{post:List Rp} {i:Nat} {ts:List Tst},(∀x∈post,x∈l)→tsR f l g post i=some ts→∀q∈ts,q.f=false∧∃t,VP f q.l t∧VP f q.r t
 | [],i,ts,_,h=>by simp only[tsR,Option.some.injEq]at h;subst h;simp
 | x:: r,i,ts,hx,h=>by
  unfold tsR at h;split at h
  ·cases h
  ·rename_i c;cases hr:tsR f l g r (i+1)with
   | none=>rw[hr]at h;cases h
   | some us=>
    rw[hr]at h;simp only[Option.map_some,Option.some.injEq]at h;subst h;intro q hq;rcases List.mem_append.1 hq with hq | hq
    ·exact QgI hv hE (hx x (by simp)) (by simpa using c) q hq
    ·exact QeG hv hE (fun y hy=>hx y (by simp[hy])) hr q hq
theorem Ah {f:Fr} (h: (Xm f).2=0):Yv f=0∧∀q∈(Xm f).1,q.f=false∧∃t,VP f q.l t∧VP f q.r t:=by
 unfold Xm at h ⊢;by_cases c:Yv f=0
 ·rw[if_neg (by simpa using c)]at h ⊢;refine⟨c,?_⟩;cases d:To f with
  | none=>rw[d]at h;cases h
  | some ts=>
   simp only;unfold To at d;cases e:Vs f with
   | none=>rw[e]at d;cases d
   | some l=>
    rw[e]at d;exact QeG c (Qjm c e) (fun x hx=>hx) d
 ·rw[if_pos (by simpa using c)]at h;exact absurd h c
theorem Qd0 {f a b:List Tm} (h: ∀x∈a,x∈b) {x:Tm} (hx:YE f a x=0):YE f b x=0:=by
 unfold YE at hx ⊢;by_cases c1:x.kind=1
 ·rw[if_pos c1]at hx ⊢;exact hx
 ·rw[if_neg c1]at hx ⊢;by_cases c2:x.kind=2
  ·rw[if_pos c2]at hx ⊢;cases c3:ZK x
   ·rw[c3]at hx;simp only[Bool.false_eq_true,if_false]at hx ⊢;cases c4:a.any (eqB x)
    ·rw[c4]at hx;simp at hx
    ·obtain⟨y,hy,e⟩:=List.any_eq_true.1 c4;rw[List.any_eq_true.2 ⟨y,h y hy,e⟩];simp
   ·simp
  ·rw[if_neg c2]at hx ⊢;exact hx
theorem Qdc {f g:Fr}: ∀x∈Q0 (Zx f g),x∈Q0 f:=fun x hx=>by
 obtain⟨h1,h2,h3⟩:=UA.1 hx;have h4:ZK x=false∧ZZ (Zx f g).s x=false:=h3;refine UA.2 ⟨h1,h2,?_⟩;refine(show ZK x=false∧ZZ f.s x=false from⟨h4.1,?_⟩);cases c:ZZ f.s x
 ·rfl
 ·have:=WP.2 (Ka (g:=g).2 (.inl (WP.1 c)));rw[h4.2]at this;cases this
theorem Lq {f g:Fr} (hv:QI f=0) {r t:Tm} (h:VP (Zx f g) r t):VP f r t:=by
 obtain⟨h1,h2⟩:=h;have hrig:Vt f r=0:=by
  obtain⟨a,b,c,_⟩:=IO h2;unfold Vt;rw[if_neg (by simpa using hv),if_neg (by simpa using b)];exact Lx.2 fun x hx=>Qd0 Qdc (Lx.1 c x hx)
 refine⟨?_,hrig⟩;unfold Zf at h1 ⊢;rw[if_neg (by simpa using h2)]at h1;rw[if_neg (by simpa using hrig)];exact h1
theorem QdO {f:Fr} (hv:Yv f=0) {a b t:Tm} (h1:VP f a t) (h2:VP f b t):YZ f a b false=(true,0):=by
 unfold YZ;rw[if_neg (by simpa using hv),h1.1,h2.1];simp[Yn]
theorem C4 {f g:Fr} (h: (WK f g).2=0):Ix f g (WK f g).1=true∧(WK f g).1.l.mass < 1000000∧(WK f g).1.r.mass < 1000000:=by
 unfold WK at h ⊢;by_cases c0:VQ f g=0
 ·rw[if_neg (by simpa using c0)]at h ⊢;obtain⟨hv,hw,sv,sw⟩:=RZ c0;by_cases c1: (Xm (Zx f g)).2=0
  ·rw[if_neg (by simpa using c1)]at h ⊢;by_cases c2: (Xm (Zx g f)).2=0
   ·rw[if_neg (by simpa using c2)]at h ⊢;unfold apE at h ⊢;by_cases d1: (QC g (Xm (Zx f g)).1).2=0
    ·rw[if_pos d1]at h ⊢;by_cases d2: (QC f (Xm (Zx g f)).1).2=0
     ·rw[if_pos d2]at h ⊢;cases hl: (QC g (Xm (Zx f g)).1).1 ++ (QC f (Xm (Zx g f)).1).1 with
      | nil=>rw[hl]at h;simp[MA]at h
      | cons q r=>
       have hq:q∈(QC g (Xm (Zx f g)).1).1 ++ (QC f (Xm (Zx g f)).1).1:=by rw[hl];simp
       show Ix f g q=true∧q.l.mass < 1000000∧q.r.mass < 1000000;rcases List.mem_append.1 hq with hq | hq
       ·obtain⟨m1,m2⟩:=RF hq;obtain⟨_,k⟩:=Ah c1;obtain⟨hf,t,t1,t2⟩:=k q m1;have hh:=QdO sv (Lq hv t1) (Lq hv t2);refine⟨?_,(S2 (Zx f g)).1 q m1⟩;unfold Ix;rw[m2,hf,hh,c0];rfl
       ·obtain⟨m1,m2⟩:=RF hq;obtain⟨_,k⟩:=Ah c2;obtain⟨hf,t,t1,t2⟩:=k q m1;have hh:=QdO sw (Lq hw t1) (Lq hw t2);refine⟨?_,(S2 (Zx g f)).1 q m1⟩;unfold Ix;rw[m2,hf,hh,c0];rfl
     ·rw[if_neg d2]at h;exact absurd h d2
    ·rw[if_neg d1]at h;exact absurd h d1
   ·rw[if_pos (by simpa using c2)]at h;exact absurd h c2
  ·rw[if_pos (by simpa using c1)]at h;exact absurd h c1
 ·rw[if_pos (by simpa using c0)]at h;exact absurd h c0
theorem Kp (f g:Fr) (w:Tm) (h0:call F.tb 398 [] []=some (.bool true,[])):call F.tb 445 [.agg (Qj f),.agg (Qj g),.agg (Qa w)] []=some (.bool true,[]):=by
 have h1:=Bq f [];have h2:=Bq g [];have h3: ∀o,call F.tb 101 [.sl o 4 [Qa w],.int .i64 1,.int .i64 20] []=some (.bool (few [w] 1 20),[]):=fun o=>Nj [w] o 1 20 [] (by omega) (by omega) (by omega);have hte:Qj f=[.sl false 4 (encTs f.s),.sl false 4 (encTs f.t)]:=rfl;have htg:Qj g=[.sl false 4 (encTs g.s),.sl false 4 (encTs g.t)]:=rfl;have e1:=Qg w;rw[Qb F.tb_445 _ _ rfl];cases hw:IB f
 ·rw[hw]at h1;rw[hte]at h1 ⊢;rw[htg];simp[F.f445C,h0,h1,e1]
 cases hw2:IB g
 ·rw[hw]at h1;rw[hw2]at h2;rw[hte]at h1 ⊢;rw[htg]at h2 ⊢;simp[F.f445C,h0,h1,h2,e1]
 cases hw3:few [w] 1 20
 ·rw[hw]at h1;rw[hw2]at h2;rw[hw3,e1]at h3;rw[hte]at h1 ⊢;rw[htg]at h2 ⊢;simp[F.f445C,h0,h1,h2,h3,e1]
 rw[hw]at h1;rw[hw2]at h2;rw[hw3,e1]at h3;obtain⟨hf,hM⟩:=EA hw;obtain⟨hg,hN⟩:=EA hw2;obtain⟨b1,b2,_⟩:=Nv (by omega) hw3;simp only[massL]at b2;have hwm:w.mass < 1000000:=by omega
 have c1:=Io f g hf hM hg hN [];have c2:=Iu f g hf hM hg hN [];have c3:=QiK f g hf hM hg hN [];have c4:=Qje f g hf hM hg hN [];have c5:=Qi2 f w hf hM hwm [];have c6:=Qjf f w hf hM hwm [];have k1: (WK f g).2=0→call F.tb 438 [.agg (Qj f),.agg (Qj g),.agg (Zl (WK f g).1)] []=some (.bool true,[]):=fun e=>by
  obtain⟨a,b,c⟩:=C4 e;rw[Bo f g hf hg hM hN _ b c,a]
 have k2: (MG f w).2=0→call F.tb 463 [.agg (Qj f),.agg (Qa w)] []=some (.tup [.agg (Qj (Wp f w)),.agg (Qj (Wg f w))],[])∧
   call F.tb 438 [.agg (Qj (Wp f w)),.agg (Qj (Wg f w)),.agg (Zl (MG f w).1)] []=some (.bool true,[]):=fun e=>by
  unfold MG at e ⊢;by_cases d:Yv f=0
  ·rw[if_neg (by simpa using d)]at e ⊢;have hv:=Xg d;cases d2:ZZ f.s w
   ·rw[d2]at e;simp at e
   ·rw[d2]at e;rw[if_neg (by simp)]at e ⊢;obtain⟨v1,v2,_⟩:=(W3 hv).2 w (WP.1 d2);have hw30:=(Tn v1 v2).1;obtain⟨a1,a2⟩:=IE hf hv hw30;obtain⟨b1,b2⟩:=IF hf hv w;obtain⟨a,b,c⟩:=C4 e;exact⟨Bv f w hf hv hw30 [],by rw[Bo _ _ a1 b1 a2 b2 _ b c,a]⟩
  ·rw[if_pos (by simpa using d)]at e;exact absurd e d
 generalize Kd f g=V at *;generalize WK f g=A at *;generalize MG f w=G at *;obtain⟨q,e⟩:=A;obtain⟨u,j⟩:=G;obtain⟨vb,ve⟩:=V;simp only[Z3]at c1 c2 c5 c6 k1 k2;have hg1:Qj (Wp f w)=[.sl false 4 (encTs (Wp f w).s),.sl false 4 (encTs (Wp f w).t)]:=rfl;have hg2:Qj (Wg f w)=[.sl false 4 (encTs (Wg f w).s),.sl false 4 (encTs (Wg f w).t)]:=rfl;rw[hg1,hg2]at k2;rw[ZM]at c1 c2 c5 c6 k1 k2;rw[e1]at c5 c6 k2;rw[hte]at h1 c1 c2 c3 c4 c5 c6 k1 k2 ⊢;rw[htg]at h2 c1 c2 c3 c4 k1 ⊢;rw[e1];by_cases d1:e=0
 ·have k1:=k1 d1;by_cases d2:j=0
  ·obtain⟨k2,k3⟩:=k2 d2;simp[F.f445C,h0,h1,h2,h3,c1,c2,c3,c4,c5,c6,d1,d2,k1,k2,k3]
  ·simp[F.f445C,h0,h1,h2,h3,c1,c2,c3,c4,c5,c6,d1,d2,k1]
 ·by_cases d2:j=0
  ·obtain⟨k2,k3⟩:=k2 d2;simp[F.f445C,h0,h1,h2,h3,c1,c2,c3,c4,c5,c6,d1,d2,k2,k3]
  ·simp[F.f445C,h0,h1,h2,h3,c1,c2,c3,c4,c5,c6,d1,d2]
theorem Di {T:Nat→Option AFn} {K:ZX} (h:KLe K (call T)) {n:Nat}: ∀{c:AC} {σ:St} {x:Ex×St},Zi K n c σ=some x→run T c σ=some x:=by
 intro c
 induction c with
 | bad=>intro σ x he;simp[Zi]at he
 | skip=>intro σ x he;rw[Dm];exact he
 | ret=>intro σ x he;rw[Ac];exact he
 | exit id=>intro σ x he;rw[Dk];exact he
 | reg d ops=>
  intro σ x he;rw[Ab];simp only[Zi]at he;cases hr:ZE K ops σ with
  | none=>rw[hr]at he;cases he
  | some s=>rw[Uf h hr];rw[hr]at he;exact he
 | seq a b iha ihb=>
  intro σ x he;rw[Ad];simp only[Zi]at he;cases ha:Zi K n a σ with
  | none=>rw[ha]at he;cases he
  | some p=>
   obtain⟨e,s⟩:=p;rw[ha]at he;rw[iha ha];cases e
   ·exact ihb he
   ·exact he
   ·exact he
 | cond c a b iha ihb=>
  intro σ x he;rw[Dj];simp only[Zi]at he;split at he
  ·rename_i hv;rw[hv];exact iha he
  ·rename_i hv;rw[hv];exact ihb he
  ·cases he
 | block id c ih=>
  intro σ x he;rw[HD];simp only[Zi]at he;cases ha:Zi K n c σ with
  | none=>rw[ha]at he;cases he
  | some p=>rw[ha]at he;rw[ih ha];exact he
 | loop c ih=>
  intro σ x he;simp only[Zi]at he;have key: ∀(m:Nat) (σ:St) (x:Ex×St),V6 (Zi K n c) m σ=some x→run T (.loop c) σ=some x:=by
   intro m
   induction m with
   | zero=>intro σ x he;simp[V6]at he
   | succ m IH=>
    intro σ x he;rw[Dl];simp only[V6]at he;cases ha:Zi K n c σ with
    | none=>rw[ha]at he;cases he
    | some p=>
     obtain⟨e,s⟩:=p;rw[ha]at he;rw[ih ha];cases e
     ·exact IH _ _ he
     ·exact he
     ·exact he
  exact key n σ x he
abbrev Qe:=Nat×List AV×List (List AV)×AV×List (List AV)
def Jm:List Qe→Nat→List AV→List (List AV)→Option (AV×List (List AV))
 | [],_,_,_=>none
 | (g,ar,b,v,b2):: fs,f,args,bs=>if(g == f && eqVE b bs && eqVL ar args)=true then some (v,b2)else Jm fs f args bs
def Qn (T:Nat→Option AFn) (fs:List Qe):Nat→ZX
 | 0,_,_,_=>none
 | n+1,f,args,bs=>match Jm fs f args bs with
  | some r=>some r
  | none=>match T f with
   | none=>none
   | some (.orc g)=>g args bs
   | some (.code fn)=>
    if args.length=fn.nparams then
     match Zi (Qn T fs n) n fn.body {env:=Y3 args,bs}with
     | some (.normal,σ)=>YK fn bs σ
     | some (.ret,σ)=>YK fn bs σ
     | _=>none
    else none
def Qi (T:Nat→Option AFn):List Qe→Prop
 | []=>True
 | (g,ar,b,v,b2):: fs=>call T g ar b=some (v,b2)∧Qi T fs
theorem EX {T:Nat→Option AFn}: ∀{fs:List Qe},Qi T fs→∀{f args bs r},Jm fs f args bs=some r→call T f args bs=some r
 | [],_,_,_,_,_,h=>by simp[Jm]at h
 | (g,ar,b,v,b2):: fs,hf,f,args,bs,r,h=>by
  simp only[Jm]at h;split at h
  ·rename_i c;simp only[Bool.and_eq_true,beq_iff_eq]at c;obtain⟨⟨rfl,e2⟩,e⟩:=c;have e:=eqVL_eq _ _ e;have e2:=eqVE_eq _ _ e2;subst e;subst e2;cases h;exact hf.1
  ·exact EX hf.2 h
theorem Qf {T:Nat→Option AFn} {fs:List Qe} (hf:Qi T fs): ∀n,KLe (Qn T fs n) (call T)
 | 0,_,_,_,_,h=>by simp[Qn]at h
 | n+1,f,args,bs,r,h=>by
  simp only[Qn]at h;split at h
  ·rename_i r' hl;cases h;exact EX hf hl
  ·rw[Iw];have ih:=Qf hf n;split at h
   ·cases h
   ·rename_i g hg;rw[hg];exact h
   ·rename_i fn hg;rw[hg];simp only;split at h
    ·rename_i hl;rw[if_pos hl];split at h
     ·rename_i σ hr;rw[Di ih hr];exact h
     ·rename_i σ hr;rw[Di ih hr];exact h
     ·cases h
    ·cases h
end Go.Am
