/-
  Rc14, Rc15, Rc16, Rc17, Rc18, Rc19, Rc20.
-/
import Derived.Test.YtkijgpjgngncpaaGreatDoorG17
set_option linter.all false
namespace Go.Am
set_option maxRecDepth 8000
@[simp] theorem GU (t:Tm): (Qb t).drop 5=[]:=by simp[Qz]
def Qdu (l:List Pw) (id:Nat) (B:List (List AV)) (r:Out):Prop:=∃t,t≠[]∧r=some (.gs id 0 5 l.length,B.set id (QF l ++ t))
theorem Qbh {pre post:List Pw} {p:Pw} {id n:Nat} {B:List (List AV)} {t:List AV} (hn:n=pre.length+1+post.length) (hl:n < 100000000) (hb:B[id]? =some (QF (pre ++ p:: post)++ t)):
  Qdu (pre ++ post) id B (call F.tb 195 [.gs id 0 5 n,.int .i64 pre.length,.int .i64 ((pre.length:Int)+1)] B):=by
 have hlt:=Zp hb;have e1: (0:Int)≤(pre.length:Int):=by omega
 have e2: (pre.length:Int)≤(pre.length:Int)+1:=by omega
 have e3: (pre.length:Int)+1≤(n:Int):=by omega
 have e4: (0:Int)≤(pre.length:Int)+1:=by omega
 have e5: ¬(pre.length:Int)=(pre.length:Int)+1:=by omega
 have e6: (pre.length:Int)≤(n:Int):=by omega
 have e7: ((pre.length:Int)+1).toNat=pre.length+1:=by omega
 have e8:n - (pre.length+1)=post.length:=by omega
 have e9: (pre.length+post.length)=n - 1:=by omega
 have e10:n - (n - 1)=1:=by omega
 have e11: ((n - 1:Nat):Int)≤(n:Int):=by omega
 have hl0: (QF pre).length=pre.length*5:=YR pre;have hp0: (QF post).length=post.length*5:=YR post;have hst: (QF post).map AV.strip=QF post:=Zr Yx post;have hrl: (QF (pre ++ p:: post)++ t).length=n*5+t.length:=by rw[List.length_append,YR];simp;omega
 have htk:=VV (f:=Qw) (k:=5) ZX (l:=pre ++ p:: post) (pre:=pre) (post:=p:: post) rfl t;have hdr:=R8 (f:=Qw) (k:=5) ZX (l:=pre ++ p:: post) (pre:=pre ++ [p]) (post:=post) (by simp) t;rw[List.length_append,List.length_singleton]at hdr;have hne:QF (pre ++ p:: post)++ t≠[]:=by
  intro e;have:=congrArg List.length e;rw[hrl]at this;simp at this;omega
 have hb56:n*64≤140737488355328:=by omega
 have hb57:pre.length*64≤140737488355328:=by omega
 have hb58: (pre.length+post.length)*64≤140737488355328:=by omega
 have hq2: (n:Int)≤((QF (pre ++ p:: post)++ t).length:Int) / 5:=by rw[hrl];omega
 have e13:pre.length≤n:=by omega
 rw[Qa F.tb_195 _ _ rfl];generalize hcc:QF (pre ++ p:: post)++ t=c at *;by_cases hp:post=[]
 ·subst hp;have e8':n - (pre.length+1)=0:=by simpa using e8
  have e9':pre.length=n - 1:=by simpa using e9
  have e12:n - pre.length=1:=by omega
  have hle:pre.length*5+5≤c.length:=by omega
  refine⟨List.replicate 5 .undef ++ c.drop (pre.length*5+5),by simp,?_⟩;simp[-getElem?_pos,F.f195C,e1,e2,e3,e4,e5,e6,e7,e8',e12,e13,hb,hb57,hq2,hle,hne,htk,appM,Xd]
 ·have hz: ¬post.length=0:=fun e=>hp (List.eq_nil_of_length_eq_zero e);have hle: (pre.length+1)*5+post.length*5≤c.length:=by omega
  have hle2: (pre.length+post.length)*5≤c.length:=by omega
  have hle3:pre.length*5≤c.length:=by omega
  have htp: ((c.map AV.strip).drop ((pre.length+1)*5)).take (post.length*5)=QF post:=by
   rw[← List.map_drop,hdr,← hp0,List.map_append];change List.take (QF post).length (List.map AV.strip (QF post)++ List.map AV.strip t)=QF post;rw[hst,List.take_left]
  have e14: (pre.length:Int)+ (post.length:Int)≤(n:Int):=by omega
  have e15: (0:Int)≤(pre.length:Int)+ (post.length:Int):=by omega
  have e16:n - (pre.length+post.length)=1:=by omega
  have e17: ((pre.length:Int)+ (post.length:Int)).toNat=pre.length+post.length:=by omega
  have e18:pre.length+post.length≤n:=by omega
  have hgs: ∀x:List AV,(B.set id x)[id]? =some x:=fun x=>by simp[hlt]
  obtain⟨c1,hc1⟩: ∃c1,Zs Qw pre ++ (QF post ++ c.drop (pre.length*5+post.length*5))=c1:=⟨_,rfl⟩;have hc1':c1=QF (pre ++ post)++ c.drop ((pre.length+post.length)*5):=by rw[← hc1,show QF (pre ++ post)=QF pre ++ QF post from XH _ _ _,Nat.add_mul];simp
  have hr1: (QF (pre ++ post)).length=(pre.length+post.length)*5:=by rw[YR];simp
  have hl1:c1.length=c.length:=by rw[hc1',List.length_append,hr1,List.length_drop];omega
  have htk1:c1.take ((pre.length+post.length)*5)=QF (pre ++ post):=by rw[hc1',← hr1,List.take_left]
  have hle4: (pre.length+post.length)*5+5≤c1.length:=by omega
  rw[← hl1]at hq2;refine⟨List.replicate 5 .undef ++ c1.drop ((pre.length+post.length)*5+5),by simp,?_⟩;rw[hl1]at hq2;have hq3: (n:Int)≤(c1.length:Int) / 5:=by rw[hl1];exact hq2
  simp[-getElem?_pos,F.f195C,e1,e2,e3,e4,e5,e6,e7,e8,e14,e15,e16,e17,e18,hp,hb,hb57,hb58,hq2,hq3,hle,hle2,hle3,hle4,hne,htk,htk1,htp,hp0,hgs,hc1,appM,Xd]
def Y0:List Pw→Tm→Int→List Pw
 | [],t,n=>[(t,n)]
 | p:: r,t,n=>if Qh p.1 t < 0 then p:: Y0 r t n else if Qh p.1 t=0 then(if p.2+n=0 then r else(p.1,p.2+n):: r)else(t,n):: p:: r
theorem Kr: ∀(pre post:List Pw) (t:Tm) (n:Int),(∀p∈pre,Qh p.1 t < 0)→Y0 (pre ++ post) t n=pre ++ Y0 post t n
 | [],_,_,_,_=>rfl
 | p:: pre,post,t,n,h=>by
  simp only[List.cons_append,Y0];rw[if_pos (h p (by simp)),Kr pre post t n fun q hq=>h q (by simp[hq])]
def PS (B0 B:List (List AV)) (v:AV) (l:List Pw):Prop:=∃(M:List (List AV)) (id sz:Nat),B=B0 ++ M∧v= .gs id 0 sz l.length∧
 ((sz=0∧id=0∧l=[])∨(sz=5∧B0.length≤id∧∃t,B[id]? =some (QF l ++ t)∧QF l ++ t≠[]))
def CO (B0:List (List AV)) (l:List Pw) (r:Out):Prop:=∃v B,r=some (v,B)∧PS B0 B v l
theorem DR (B0:List (List AV)):PS B0 B0 (.gs 0 0 0 0) []:=⟨[],0,0,by simp,rfl,.inl ⟨rfl,rfl,rfl⟩⟩
theorem Xo {B0 M:List (List AV)} {id:Nat} (h:B0.length≤id) (x:List AV): (B0 ++ M).set id x=B0 ++ M.set (id - B0.length) x:=by rw[List.set_append,if_neg (by omega)]
theorem Hq {B0 B:List (List AV)} {v:AV} {l:List Pw} {p:Pw} (h:PS B0 B v l) (hl:l.length < 50000000) (hm: ∀q∈l,q.1.mass < big∧ -100000000 < q.2∧q.2 < 100000000) (hp:p.1.mass < big) (hpn: -100000000 < p.2∧p.2 < 100000000) (ha:Asc (ZS l)):
  CO B0 (Y0 l p.1 p.2) (call F.tb 189 [v,.agg (Qw p)] B):=by
 obtain⟨M,id,sz,rfl,rfl,hcase⟩:=h;have hb: ∃c,l≠[]→sz=5∧(B0 ++ M)[id]? =some (QF l ++ c):=by
  rcases hcase with⟨_,_,rfl⟩ | ⟨h1,_,t,h2,_⟩
  ·exact⟨[],fun h=>absurd rfl h⟩
  ·exact⟨t,fun _=>⟨h1,h2⟩⟩
 obtain⟨c,hb⟩:=hb;obtain⟨k,⟨hk1,hk2,hk3⟩,hc⟩:=Qbg (t:=p.1) (by omega) hb (fun q hq=>(hm q hq).1) hp ha;have hcl:=U7 p.1 (B0 ++ M) hp;have hsplit:l=l.take k ++ l.drop k:=(List.take_append_drop _ _).symm;have hkl: (l.take k).length=k:=by rw[List.length_take];omega
 have hpre: ∀q∈l.take k,Qh q.1 p.1 < 0:=by
  intro q hq;obtain⟨i,hi,rfl⟩:=List.getElem_of_mem hq;rw[hkl]at hi;exact hk2 i _ (by rw[List.getElem_take];exact List.getElem?_eq_getElem (by omega)) hi
 have hadd:Y0 l p.1 p.2=l.take k ++ Y0 (l.drop k) p.1 p.2:=by
  conv=>lhs;rw[hsplit]
  exact Kr _ _ _ _ hpre
 rw[Qa F.tb_189 _ _ rfl];by_cases hh:hit l p.1 k=true
 ·rw[hh]at hc;obtain⟨q,hq,hq0⟩: ∃q,l[k]? =some q∧Qh q.1 p.1=0:=by
   unfold hit at hh;split at hh
   ·rename_i q hq;exact⟨q,hq,by simpa using hh⟩
   ·cases hh
  have hkl2:k < l.length:=by
   rcases Nat.lt_or_ge k l.length with h | h
   ·exact h
   ·rw[List.getElem?_eq_none h]at hq;cases hq
  have hne0:l≠[]:=by intro e;subst e;simp at hkl2
  have hqe:q.1=p.1:=Ze _ _ hq0;have hdk:l.drop k=q:: l.drop (k+1):=by
   rw[List.drop_eq_getElem_cons hkl2];rw[List.getElem?_eq_getElem hkl2]at hq;injection hq with hq;rw[hq]
  have hlq:l=l.take k ++ q:: l.drop (k+1):=by rw[← hdk];exact hsplit
  have hadd2:Y0 (l.drop k) p.1 p.2=if q.2+p.2=0 then l.drop (k+1)else(q.1,q.2+p.2):: l.drop (k+1):=by
   rw[hdk];simp[Y0,hq0]
  rw[hadd,hadd2];rcases hcase with⟨_,_,rfl⟩ | ⟨rfl,hid,t,hbx,hne⟩
  ·exact absurd rfl hne0
  have hlt:=Zp hbx;have hqm:=(hm q (List.mem_of_getElem? hq)).2;have hw:IntKind.i64.wrap (q.2+p.2)=q.2+p.2:=Qq (by omega) (by omega);have hrd:=Og hq t;have hlen: (QF l ++ t).length=l.length*5+t.length:=by rw[List.length_append,YR]
  have hcell: (QF l ++ t)[k*5+4]? =some (.int .i64 q.2):=by
   have h1: (((QF l ++ t).drop (k*5)).take 5)[4]? =some (.int .i64 q.2):=by rw[hrd];simp
   rw[List.getElem?_take_of_lt (by omega),List.getElem?_drop]at h1;exact h1
  have hle:k*5+4+1≤(QF l ++ t).length:=by omega
  have hnew: (QF l ++ t).take (k*5+4)++ (AV.int .i64 (q.2+p.2):: (QF l ++ t).drop (k*5+4+1))=QF (l.take k ++ (q.1,q.2+p.2):: l.drop (k+1))++ t:=by
   have h1:=T2 (f:=Qw) (k:=5) ZX (q.1,q.2+p.2) hlq t;rw[hkl]at h1;rw[show QF (l.take k ++ (q.1,q.2+p.2):: l.drop (k+1))++ t=_ from h1.symm];have h2: (QF l ++ t).take (k*5+4)=(QF l ++ t).take (k*5)++ Qb q.1:=by
    rw[List.take_add];congr 1;have: ((QF l ++ t).drop (k*5)).take 4=(((QF l ++ t).drop (k*5)).take 5).take 4:=by rw[List.take_take];rfl
    rw[this];rw[hrd];simp
   rw[h2];simp[Qw]
  have hlt3: (k:Int) < (l.length:Int):=by omega
  have hgs: ∀x:List AV,((B0 ++ M).set id x)[id]? =some x:=fun x=>by
   have:id < (B0 ++ M).length:=hlt;rw[List.getElem?_set,if_pos rfl,if_pos this]
  have hcell2: (QF (l.take k ++ (q.1,q.2+p.2):: l.drop (k+1))++ t)[k*5+4]? =some (.int .i64 (q.2+p.2)):=by
   have h0: (l.take k ++ (q.1,q.2+p.2):: l.drop (k+1))[k]? =some (q.1,q.2+p.2):=by
    rw[List.getElem?_append_right (by omega),hkl,Nat.sub_self];rfl
   have h1: (((QF (l.take k ++ (q.1,q.2+p.2):: l.drop (k+1))++ t).drop (k*5)).take 5)[4]? =some (.int .i64 (q.2+p.2)):=by rw[Og h0 t];simp
   rw[List.getElem?_take_of_lt (by omega),List.getElem?_drop]at h1;exact h1
  have hln: (l.take k ++ (q.1,q.2+p.2):: l.drop (k+1)).length=l.length:=by simp;omega
  have hle2:k*5+4+1≤(QF (l.take k ++ (q.1,q.2+p.2):: l.drop (k+1))++ t).length:=by rw[List.length_append,YR,hln];omega
  have hw2:IntKind.i64.wrap ((k:Int)+1)=(k:Int)+1:=Qq (by omega) (by omega);have hdel:=fun(x:Pw) (B:List (List AV)) (hB:B[id]? =some (QF (l.take k ++ x:: l.drop (k+1))++ t))=>Qbh (n:=l.length) (by simp;omega) (by omega) hB;rw[hkl]at hdel;generalize hc1:QF (l.take k ++ (q.1,q.2+p.2):: l.drop (k+1))++ t=c1 at *;generalize hc0:QF l ++ t=c0 at *;by_cases hz:q.2+p.2=0
  ·obtain⟨t3,ht3,hd3⟩:=hdel (q.1,q.2+p.2) ((B0 ++ M).set id c1) (by rw[hc1];exact hgs c1);rw[if_pos hz];rw[List.set_set]at hd3;refine⟨.gs id 0 5 (l.take k ++ l.drop (k+1)).length,(B0 ++ M).set id (QF (l.take k ++ l.drop (k+1))++ t3),?_,M.set (id - B0.length) (QF (l.take k ++ l.drop (k+1))++ t3),id,5,Xo hid _,rfl,.inr ⟨rfl,hid,t3,hgs _,by simp[ht3]⟩⟩;have hwz:IntKind.i64.wrap (q.2+p.2)=0:=by rw[hw,hz]
   rw[hz]at hnew hcell2;simp[-getElem?_pos,QR,List.getElem?_cons_succ,F.f189C,hc,hlt3,hbx,hcell,hle,hwz,hw2,hnew,hgs,hcell2,hle2,hd3]
  ·rw[if_neg hz];refine⟨.gs id 0 5 l.length,(B0 ++ M).set id c1,?_,M.set (id - B0.length) c1,id,5,Xo hid _,by rw[hln],.inr ⟨rfl,hid,t,by rw[hc1];exact hgs _,by rw[hc1];intro e;rw[e]at hle2;simp at hle2⟩⟩;simp[-getElem?_pos,QR,List.getElem?_cons_succ,F.f189C,hc,hlt3,hbx,hcell,hle,hw,hw2,hnew,hgs,hcell2,hle2,hz]
 ·have hh':hit l p.1 k=false:=by simpa using hh
  have hadd2:Y0 (l.drop k) p.1 p.2=p:: l.drop k:=by
   cases hd:l.drop k with
   | nil=>rfl
   | cons q r=>
    have hq:l[k]? =some q:=by rw[← List.head?_drop,hd];rfl
    have h1:=hk3 k q hq (Nat.le_refl _);have h2: ¬Qh q.1 p.1=0:=by simpa[hit,hq]using hh'
    simp[Y0,h1,h2]
  rw[hadd,hadd2];have hins: ∃t2 M2 id2,call F.tb 194 [.gs id 0 sz l.length,.int .i64 k,.sl false 5 [Qw p]] (B0 ++ M)=some (.gs id2 0 5 (l.length+1),B0 ++ M2)∧B0.length≤id2∧(B0 ++ M2)[id2]? =some (QF (l.take k ++ p:: l.drop k)++ t2):=by
   rw[ZA F.tb_194];have q1: (0:Int)≤(k:Int):=by omega
   have q2: (k:Int)≤(l.length:Int):=by omega
   have q3: (l.length+1)*64≤140737488355328:=by omega
   have q4:l.length+1≤140737488355328:=by omega
   rcases hcase with⟨rfl,rfl,rfl⟩ | ⟨rfl,hid,t,hbx,hne⟩
   ·have hk0:k=0:=by simpa using hk1
    subst hk0;refine⟨[],M ++ [Qw p],(B0 ++ M).length,?_,by simp,?_⟩
    ·simp[TF,Uq,RX]
    ·rw[← List.append_assoc,List.getElem?_concat_length];simp[QF,Zs]
   ·have hlt:=Zp hbx;have hr0:=YR l;have hle:l.length*5≤(QF l ++ t).length:=by rw[List.length_append,hr0];omega
    have hcs:Uq k 5 l.length (QF l ++ t) [Qw p]=QF (l.take k ++ p:: l.drop k):=by
     have h1: (QF l ++ t).take (l.length*5)=QF l:=by rw[← hr0,List.take_left]
     have h2:=VV (f:=Qw) (k:=5) ZX (l:=l) (pre:=l.take k) (post:=l.drop k) hsplit [];have h3:=R8 (f:=Qw) (k:=5) ZX (l:=l) (pre:=l.take k) (post:=l.drop k) hsplit [];rw[hkl,List.append_nil]at h2 h3;rw[List.append_nil]at h3;unfold Uq;rw[h1,h2,h3,show QF (l.take k ++ p:: l.drop k)=QF (l.take k)++ (Qw p ++ QF (l.drop k)) by simp[QF,XH,VU]];rw[List.map_append,List.map_append,Zr Yx,Zr Yx];simp
    have hgp:gpfreeL (QF (l.take k ++ p:: l.drop k))=true:=J0 HM _;refine⟨[],M.set (id - B0.length) []++ [QF (l.take k ++ p:: l.drop k)],(B0 ++ M).length,?_,by simp,?_⟩
    ·simp only[TF];rw[if_pos ⟨trivial,by omega,by simp,q1,q2,by simpa using q3,by simpa using q4⟩,if_neg (by omega),if_pos ⟨trivial,trivial⟩,hbx];simp only[Option.bind_some];rw[if_pos ⟨hne,hle⟩,Int.toNat_natCast,hcs,Xo hid];simp[RX,hgp]
    ·rw[← List.append_assoc,List.append_nil];have: (B0 ++ M).length=(B0 ++ M.set (id - B0.length) []).length:=by simp
     rw[this,List.getElem?_concat_length]
  obtain⟨t2,M2,id2,hc2,h2a,h2b⟩:=hins;refine⟨.gs id2 0 5 (l.length+1),B0 ++ M2,?_,M2,id2,5,rfl,?_,.inr ⟨rfl,h2a,t2,h2b,?_⟩⟩
  ·rw[hh']at hc;have hfold: [AV.int .i64 p.1.kind,.str p.1.name,.int .i64 p.1.sort,.sl false 4 (encTs p.1.kids),.int .i64 p.2]=Qw p:=(HL p).symm;have hf:Qb p.1 ++ [.int .i64 p.2]=Qw p:=rfl;simp[F.f189C,hc,hcl,List.take_append,List.drop_append,hf,GU,hc2]
  ·congr 1;simp;omega
  ·intro e;have:=congrArg List.length e;rw[List.length_append,YR]at this;simp at this
def MUL:List UInt8:=[109,117,108]
def INV:List UInt8:=[105,110,118]
def ONE:List UInt8:=[111,110,101]
def WV (t:Tm):Bool:=decide (t.kind=3) && (t.name == MUL || t.name == INV || t.name == ONE)
theorem Ic {t:Tm} (h:WV t=true):t.kind=3∧(t.name=MUL∨t.name=INV∨t.name=ONE):=by
 simp only[WV,Bool.and_eq_true,Bool.or_eq_true,decide_eq_true_eq,beq_iff_eq]at h;obtain⟨h1,(h2 | h2) | h2⟩:=h
 ·exact⟨h1,.inl h2⟩
 ·exact⟨h1,.inr (.inl h2)⟩
 ·exact⟨h1,.inr (.inr h2)⟩
theorem PC (t:Tm) (bs:List (List AV)):call F.tb 188 [.agg (Qb t)] bs=some (.bool (WV t),bs):=by
 rw[Qa F.tb_188 _ _ rfl];by_cases hk:t.kind=3
 ·cases h1:t.name == MUL
  ·cases h2:t.name == INV
   ·cases h3:t.name == ONE <;> simp only[MUL,INV,ONE]at h1 h2 h3 <;> simp[F.f188C,WV,hk,h1,h2,h3,MUL,INV,ONE]
   ·simp only[MUL,INV,ONE]at h1 h2;simp[F.f188C,WV,hk,h1,h2,MUL,INV,ONE]
  ·simp only[MUL,INV,ONE]at h1;simp[F.f188C,WV,hk,h1,MUL,INV,ONE]
 ·simp[F.f188C,WV,hk]
def VM (t:Tm):Bool:= !((t.name == MUL && decide (t.kids.length < 2)) || (t.name == INV && !decide (t.kids.length=1)) || (t.name == ONE && !decide (t.kids.length=0)))
mutual
def arB:Tm→Bool
 | .mk k n s ks=> !WV (.mk k n s ks) || (VM (.mk k n s ks) && arL ks)
def arL:List Tm→Bool
 | []=>true
 | t:: ts=>arB t && arL ts
end
theorem Ei (t:Tm):arB t=(!WV t || (VM t && arL t.kids)):=by cases t;simp[arB]
mutual
def Vv:List Pw→Tm→Int→List Pw
 | l,.mk k n s ks,m=>if WV (.mk k n s ks)then colL l ks (if n == INV then -m else m)else Y0 l (.mk k n s ks) m
def colL:List Pw→List Tm→Int→List Pw
 | l,[],_=>l
 | l,t:: ts,m=>colL (Vv l t m) ts m
end
theorem Rk (l:List Pw) (t:Tm) (m:Int):Vv l t m=if WV t then colL l t.kids (if t.name == INV then -m else m)else Y0 l t m:=by cases t;simp[Vv]
theorem Qfw {n:Nat} (h:n < 100000000):n*64≤140737488355328:=by omega
def NZ (l:List Pw):Prop:=∀q∈l,q.2≠0
theorem Kq: ∀(l:List Pw) (t:Tm) (n:Int),(Y0 l t n).length≤l.length+1
 | [],_,_=>by simp[Y0]
 | p:: l,t,n=>by
  have:=Kq l t n;simp only[Y0];split
  ·simp;omega
  ·split
   ·split <;> simp <;> omega
   ·simp
theorem UG: ∀{l:List Pw} {t:Tm} {n:Int} {q:Pw},q∈Y0 l t n→q∈l∨q=(t,n)∨∃m,(t,m)∈l∧q=(t,m+n)∧m+n≠0
 | [],t,n,q,h=>by simp[Y0]at h;exact .inr (.inl h)
 | p:: l,t,n,q,h=>by
  simp only[Y0]at h;split at h
  ·rcases List.mem_cons.1 h with h | h
   ·exact .inl (by simp[h])
   ·rcases UG h with h | h | ⟨m,h1,h2⟩
    ·exact .inl (by simp[h])
    ·exact .inr (.inl h)
    ·exact .inr (.inr ⟨m,by simp[h1],h2⟩)
  ·split at h
   ·rename_i hc;have he:=Ze _ _ hc;split at h
    ·exact .inl (by simp[h])
    ·rename_i hz;rcases List.mem_cons.1 h with h | h
     ·exact .inr (.inr ⟨p.2,by rw[← he];simp,by rw[← he];exact h,hz⟩)
     ·exact .inl (by simp[h])
   ·rcases List.mem_cons.1 h with h | h
    ·exact .inr (.inl h)
    ·exact .inl h
theorem Kw: ∀{l:List Pw} {t:Tm} {n:Int},Asc (ZS l)→Asc (ZS (Y0 l t n))
 | [],t,n,_=>by simp[Y0,ZS,Asc]
 | p:: l,t,n,h=>by
  have h':=h;simp only[ZS,List.map_cons]at h';obtain⟨h1,h2⟩:=Yf.1 h';simp only[Y0];split
  ·rename_i c;simp only[ZS,List.map_cons];refine Yf.2 ⟨fun y hy=> ?_,Kw h2⟩;obtain⟨q,hq,rfl⟩:=List.mem_map.1 hy;rcases UG hq with hq | rfl | ⟨m,hm,rfl,_⟩
   ·exact h1 _ (List.mem_map_of_mem hq)
   ·exact c
   ·exact c
  ·split
   ·split
    ·exact h2
    ·simp only[ZS,List.map_cons];exact h'
   ·rename_i c1 c2;simp only[ZS,List.map_cons];have c3:Qh t p.1 < 0:=by have:=Yn t p.1;omega
    refine Yf.2 ⟨fun y hy=> ?_,h'⟩;rcases List.mem_cons.1 hy with rfl | hy
    ·exact c3
    ·exact Z4 c3 (h1 y hy)
structure W7 (l:List Pw) (b:Nat):Prop where
 asc:Asc (ZS l)
 nz:NZ l
 len:l.length≤b
 bd: ∀q∈l,q.1.mass < big∧ -(b:Int)≤q.2∧q.2≤b
theorem Ay:W7 [] 0:=⟨Asc.nil,fun q h=>by simp at h,by simp,fun q h=>by simp at h⟩
theorem W7.mono {l:List Pw} {b c:Nat} (h:W7 l b) (hbc:b≤c):W7 l c:=⟨h.asc,h.nz,Nat.le_trans h.len hbc,fun q hq=>by obtain⟨h1,h2,h3⟩:=h.bd q hq;exact⟨h1,by omega,by omega⟩⟩
theorem W7.add {l:List Pw} {b c:Nat} {t:Tm} {n:Int} (h:W7 l b) (ht:t.mass < big) (hn:n≠0) (h1: -(c:Int)≤n) (h2:n≤c):W7 (Y0 l t n) (b+c):=by
 refine⟨Kw h.asc,?_,?_,?_⟩
 ·intro q hq;rcases UG hq with hq | rfl | ⟨m,hm,rfl,hz⟩
  ·exact h.nz q hq
  ·exact hn
  ·exact hz
 ·have:=Kq l t n;have:=h.len;omega
 ·intro q hq;rcases UG hq with hq | rfl | ⟨m,hm,rfl,hz⟩
  ·obtain⟨a1,a2,a3⟩:=h.bd q hq;exact⟨a1,by omega,by omega⟩
  ·exact⟨ht,by simp;omega,by simp;omega⟩
  ·obtain⟨a1,a2,a3⟩:=h.bd _ hm;simp at a2 a3;exact⟨ht,by simp;omega,by simp;omega⟩
def uno (m:Int):Prop:=m=1∨m= -1
theorem uno.neg {m:Int} (h:uno m):uno (-m):=by rcases h with rfl | rfl <;> simp[uno]
theorem uno.ite {m:Int} (h:uno m) (c:Bool):uno (if c then -m else m):=by cases c <;> simp[h,h.neg]
theorem DP: ∀(t:Tm) (l:List Pw) (m:Int) (b:Nat),t.mass < big→uno m→W7 l b→W7 (Vv l t m) (b+t.nodes):=by
 refine ZU ?_;intro k n s ks ih l m b hm hu h;have hne:=ZJ (.mk k n s ks);have hme:=Qr (.mk k n s ks);simp only[QX,Zk]at hne hme;have hL: ∀(xs:List Tm) (l:List Pw) (m:Int) (b:Nat),(∀x∈xs,x∈ks)→uno m→W7 l b→W7 (colL l xs m) (b+nodesL xs):=by
  intro xs
  induction xs with
  | nil=>intro l m b _ _ h;simpa[colL,nodesL]using h
  | cons x xs IH=>
   intro l m b hx hu h;have h1:=ih x (hx x (by simp)) l m b (by have:=QN (hx x (by simp));omega) hu h;have h2:=IH _ m _ (fun y hy=>hx y (by simp[hy])) hu h1;simp only[colL,nodesL];rw[← Nat.add_assoc];exact h2
 rw[Rk];split
 ·have:=hL ks l _ b (fun x hx=>hx) (hu.ite ((Tm.mk k n s ks).name == INV)) h;exact this.mono (by omega)
 ·have:W7 (Y0 l (.mk k n s ks) m) (b+1):=h.add (c:=1) hm (by rcases hu with rfl | rfl <;> simp) (by rcases hu with rfl | rfl <;> simp) (by rcases hu with rfl | rfl <;> simp);exact this.mono (by omega)
def Gp (B0:List (List AV)) (l:List Pw) (ok:Bool) (r:Out):Prop:=∃v B,r=some (.tup [v,.bool ok],B)∧PS B0 B v (if ok then l else [])
theorem WH {B0 B:List (List AV)} {v:AV} {l:List Pw} (h:PS B0 B v l): ∃id sz,v= .gs id 0 sz l.length:=by
 obtain⟨M,id,sz,_,rfl,_⟩:=h;exact⟨id,sz,rfl⟩
theorem OH {B0 B:List (List AV)} {v:AV} {l:List Pw} (h:PS B0 B v l):PS B0 B (.gs 0 0 0 0) []:=by
 obtain⟨M,id,sz,rfl,_,_⟩:=h;exact⟨M,0,0,rfl,rfl,.inl ⟨rfl,rfl,rfl⟩⟩
theorem BA (t:Tm) (B0:List (List AV)) (hm:t.mass < big) (m:Int) (hu:uno m) (ih: ∀x∈t.kids,∀B v l b,PS B0 B v l→W7 l b→b+x.nodes < 40000000→Gp B0 (Vv l x m) (arB x) (call F.tb 187 [v,.agg (Qb x),.int .i64 m] B)) (K:List (List AV)):
  ∀(post pre:List Tm) (l:List Pw) (b:Nat) (B:List (List AV)) (v:AV) (ρ:Nat→AV),t.kids=pre ++ post→PS B0 B v l→W7 l b→b+nodesL post < 40000000→ρ 0=v→ρ 2= .int .i64 m→ρ 52= .sl false 4 (encTs t.kids)→ρ 53= .int .i64 t.kids.length→ρ 54= .int .i64 pre.length→
  Gp B0 (colL l post m) (arL post) (R F.tb (.loop F.f187l0) ρ B (Qi 1 (Qu F.tb F.f187r0 (Qy F.f187 K)))):=by
 have hm2:=Qr t;have hmb:=hm;unfold big at hm;intro post
 induction post with
 | nil=>
  intro pre l b B v ρ hk hps hl hb h0 h2 h52 h53 h54;simp only[List.append_nil]at hk;rw[← hk]at h54;obtain⟨id,sz,rfl⟩:=WH hps;rw[Qd F.f187l0.eq_1];refine⟨_,B,?_,by simpa[colL,arL]using hps⟩;simp[h0,h2,h52,h53,h54,F.f187r0,colL,arL]
 | cons x post IH=>
  intro pre l b B v ρ hk hps hl hb h0 h2 h52 h53 h54;have hg:=QB hk;have hll:=QM hk;have hw1:=wr1 pre.length (by omega);have hlt:=QO hk;have hxk:x∈t.kids:=by rw[hk];simp
  simp only[nodesL]at hb;obtain⟨v2,B2,hc,hps2⟩:=ih x hxk B v l b hps hl (by omega);obtain⟨id,sz,rfl⟩:=WH hps;obtain⟨id2,sz2,rfl⟩:=WH hps2;rw[Qd F.f187l0.eq_1];cases ha:arB x
  ·rw[ha]at hc hps2;refine⟨.gs 0 0 0 0,B2,?_,by simpa[arL,ha]using OH hps2⟩;simp only[Bool.false_eq_true,if_false]at hc;simp[h0,h2,h52,h53,h54,hg,hlt,hc,Qj,arL,ha]
  ·rw[ha]at hc hps2;simp only[if_true]at hc hps2;have h3:=fun ρ=>IH (pre ++ [x]) (Vv l x m) (b+x.nodes) B2 _ ρ (by rw[hk];simp) hps2 (DP x l m b (by have:=QN hxk;omega) hu hl) (by omega);have e1:colL l (x:: post) m=colL (Vv l x m) post m:=by simp[colL]
   have e2:arL (x:: post)=arL post:=by simp[arL,ha]
   rw[e1,e2];simp[h0,h2,h52,h53,h54,hg,hlt,hw1,hc,Qj];refine h3 _ ?_ ?_ ?_ ?_ ?_ <;> simp[h2,h52,h53]
theorem Qbf: ∀(t:Tm) (B0 B:List (List AV)) (v:AV) (l:List Pw) (m:Int) (b:Nat),t.mass < big→uno m→PS B0 B v l→W7 l b→b+t.nodes < 40000000→Gp B0 (Vv l t m) (arB t) (call F.tb 187 [v,.agg (Qb t),.int .i64 m] B):=by
 refine ZU ?_;intro k n s ks ih B0 B v l m b hm hu hps hl hb;have hme:=Qr (.mk k n s ks);have hne:=ZJ (.mk k n s ks);simp only[QX,Zk]at hne hme;have hsp:=PC (.mk k n s ks) B;obtain⟨id,sz,rfl⟩:=WH hps;rw[Qa F.tb_187 _ _ rfl,Rk,Ei];cases hs:WV (.mk k n s ks)
 ·obtain⟨v2,B2,hc,hps2⟩:=Hq (p:=(.mk k n s ks,m)) hps (by have:=hl.len;omega) (fun q hq=>by obtain⟨a1,a2,a3⟩:=hl.bd q hq;exact⟨a1,by omega,by omega⟩) hm (by rcases hu with rfl | rfl <;> simp) hl.asc;obtain⟨id2,sz2,rfl⟩:=WH hps2;have hf:Qb (.mk k n s ks)++ [.int .i64 m]=Qw (.mk k n s ks,m):=rfl;refine⟨_,B2,?_,by simpa using hps2⟩;simp[F.f187C,hsp,hs,List.take_append,List.drop_append,hf,hc]
 ·have h2:=fun m hu ρ=>BA (.mk k n s ks) B0 hm m hu (fun x hx B v l b hps hl hb=>ih x hx B0 B v l m b (by have:=QN hx;simp at this;omega) hu hps hl hb) B ks [] l b B _ ρ rfl hps hl (by omega);obtain⟨rfl,hn⟩:=Ic hs;simp only[Zk]at hn;simp only[QX]at h2;simp only[Bool.not_true,Bool.false_or,if_true];rcases hn with rfl | rfl | rfl
  ·have h3:=h2 m hu;by_cases d:ks.length < 2
   ·have d': (ks.length:Int) < 2:=by omega
    have hc:VM (.mk 3 MUL s ks)=false:=by simp[VM,d]
    refine⟨.gs 0 0 0 0,B,?_,by simpa[hc]using OH hps⟩;simp only[hc];simp[MUL]at hsp hs hc;simp[F.f187C,hsp,hs,MUL,d']
   ·have d': ¬(ks.length:Int) < 2:=by omega
    have hc:VM (.mk 3 MUL s ks)=true:=by simp[VM,d];simp[MUL,INV,ONE]
    have e: ((Tm.mk 3 MUL s ks).name == INV)=false:=by simp[MUL,INV]
    rw[e];simp only[hc,Bool.true_and,QX,Bool.false_eq_true,if_false];simp[MUL]at hsp hs;simp[F.f187C,hsp,hs,MUL,d'];refine h3 _ ?_ ?_ ?_ ?_ ?_ <;> simp
  ·have h3:=h2 (-m) hu.neg;have hw:IntKind.i64.wrap (-m)= -m:=by rcases hu with rfl | rfl <;> rfl
   by_cases d:ks.length=1
   ·have d': (ks.length:Int)=1:=by omega
    have hc:VM (.mk 3 INV s ks)=true:=by simp[VM,d];simp[MUL,INV,ONE]
    have e: ((Tm.mk 3 INV s ks).name == INV)=true:=by simp
    rw[e];simp only[hc,Bool.true_and,QX,if_true];simp[INV]at hsp hs;simp[F.f187C,hsp,hs,INV,d',hw];refine h3 _ ?_ ?_ ?_ ?_ ?_ <;> simp[d]
   ·have d': ¬(ks.length:Int)=1:=by omega
    have hc:VM (.mk 3 INV s ks)=false:=by simp[VM,d]
    refine⟨.gs 0 0 0 0,B,?_,by simpa[hc]using OH hps⟩;simp only[hc];simp[INV]at hsp hs hc;simp[F.f187C,hsp,hs,INV,d']
  ·have h3:=h2 m hu;by_cases d:ks=[]
   ·subst d;have hc:VM (.mk 3 ONE s [])=true:=by simp[VM];simp[MUL,INV,ONE]
    have e: ((Tm.mk 3 ONE s []).name == INV)=false:=by simp[ONE,INV]
    rw[e];simp only[hc,Bool.true_and,QX,Bool.false_eq_true,if_false];simp[ONE]at hsp hs;simp[F.f187C,hsp,hs,ONE];refine h3 _ ?_ ?_ ?_ ?_ ?_ <;> simp
   ·have d0: ¬ks.length=0:=fun e=>d (List.eq_nil_of_length_eq_zero e);have d': ¬(ks.length:Int)=0:=by omega
    have hc:VM (.mk 3 ONE s ks)=false:=by simp[VM,d]
    refine⟨.gs 0 0 0 0,B,?_,by simpa[hc]using OH hps⟩;simp only[hc];simp[ONE]at hsp hs hc;simp[F.f187C,hsp,hs,ONE,d,d']
def ofE (t:Tm):Int:=if QD t≠0 then QD t else if arB t then(if 200 < (Vv [] t 1).length then 3 else 0)else 6
def ofP (t:Tm):List Pw:=if ofE t=0 then Vv [] t 1 else []
theorem QeK {B0 B:List (List AV)} {v:AV} {l:List Pw} (h:PS B0 B v l) (n:Nat): ∃o M2,∀ρ:Nat→AV,ρ n=v→Zb {env:=ρ,bs:=B} n 5=some (.sl o 5 (QU l),{env:=upd ρ n .undef,bs:=B0 ++ M2}):=by
 obtain⟨M,id,sz,rfl,rfl,hc⟩:=h;rcases hc with⟨rfl,rfl,rfl⟩ | ⟨rfl,hid,t,hb,hne⟩
 ·exact⟨true,M,fun ρ hn=>by simp[Zb,hn,QU]⟩
 ·by_cases hl:l.length=0
  ·have:l=[]:=List.eq_nil_of_length_eq_zero hl;subst this;exact⟨false,M,fun ρ hn=>by simp[Zb,hn,QU]⟩
  ·refine⟨true,M.set (id - B0.length) [],fun ρ hn=> ?_⟩;have hle:0+l.length*5≤(QF l ++ t).length:=by rw[List.length_append,YR];omega
   have hch:QY (QF l ++ t) 0 5 l.length=QU l:=YS (f:=Qw) (k:=5) ZX Yx l t;simp only[Zb,hn];rw[if_pos ⟨trivial,by omega⟩,if_neg hl,hb];simp only[Option.bind_some];rw[if_pos hle,hch,Xo hid];rfl
theorem Rf (t:Tm) (bs:List (List AV)) (hm:t.mass < 30000000):call F.tb 186 [.agg (Qb t)] bs=some (.tup [.sl false 5 (QU (ofP t)),.int .i64 (ofE t)],bs):=by
 have hmb:t.mass < big:=by unfold big;omega
 have hnm:=YA t;have h1:=XZ t bs hmb;obtain⟨v,B,hc,hps⟩:=Qbf t bs bs (.gs 0 0 0 0) [] 1 0 hmb (.inl rfl) (DR bs) Ay (by omega);obtain⟨id,sz,rfl⟩:=WH hps;obtain⟨M,hM⟩: ∃M,B=bs ++ M:=by obtain⟨M,_,_,h,_⟩:=hps;exact⟨M,h⟩
 have hgn:=RL (Vv [] t 1);rw[Qa F.tb_186 _ _ rfl];by_cases hv:QD t=0
 ·cases ha:arB t
  ·rw[ha]at hc hps;simp only[Bool.false_eq_true,if_false]at hc;simp[F.f186C,h1,hv,hc,ha,ofE,ofP,QU,hM]
  ·rw[ha]at hc hps;simp only[if_true]at hc hps;by_cases hl:200 < (Vv [] t 1).length
   ·have hl': (200:Int) < ((Vv [] t 1).length:Int):=by omega
    simp[F.f186C,h1,hv,hc,ha,ofE,ofP,hl,hl',hM];simp[QU]
   ·have hl': ¬(200:Int) < ((Vv [] t 1).length:Int):=by omega
    obtain⟨o,M2,hf⟩:=QeK hps 24;simp[F.f186C,h1,hv,hc,ha,ofE,ofP,hl,hl',hf]
 ·simp[F.f186C,h1,hv,ofE,ofP,QU]
def gtO (prev:Option Tm) (t:Tm):Bool:=match prev with
 | none=>true
 | some q=>decide (Qh q t < 0)
def Wm (n:Int):Bool:=decide (n < -1000) || decide (1000 < n)
def vPL:Option Tm→List Pw→Int
 | _,[]=>0
 | prev,p:: r=>if QD p.1≠0 then QD p.1 else if WV p.1 then 1 else if p.2=0∨Wm p.2=true then 7 else if gtO prev p.1 then vPL (some p.1) r else 5
def ZQ (l:List Pw):Int:=if 200 < l.length then 3 else vPL none l
def Kf (l:List Pw):Option Tm:=l.getLast?.map (·.1)
theorem Dv:Kf []=none:=rfl
theorem Ls (l:List Pw) (p:Pw):Kf (l ++ [p])=some p.1:=by simp[Kf]
theorem F0 (l:List Pw) (bs:List (List AV)) (hl:l.length < 100000000) (hm: ∀q∈l,q.1.mass < big):
  ∀(post pre:List Pw) (o:Bool) (ρ:Nat→AV),l=pre ++ post→ρ 0= .sl o 5 (QU l)→ρ 9= .sl false 5 (QU l)→ρ 10= .int .i64 l.length→ρ 11= .int .i64 pre.length→
  R F.tb (.loop F.f197l0) ρ bs (Qi 0 (Qu F.tb F.f197r0 (Qy F.f197 bs)))=some (.int .i64 (vPL (Kf pre) post),bs):=by
 intro post
 induction post with
 | nil=>
  intro pre o ρ hk h0 h9 h10 h11;simp only[List.append_nil]at hk;rw[← hk]at h11;rw[Qd F.f197l0.eq_1];simp[h0,h9,h10,h11,F.f197r0,vPL]
 | cons p post IH=>
  intro pre o ρ hk h0 h9 h10 h11;have hg:=QB hk;have hll:=QM hk;have hw1:=wr1 pre.length (by omega);have hlt:=QO hk;have hmp:=hm p (by rw[hk];simp);have h1:=XZ p.1 bs hmp;have h2:=PC p.1 bs;have h3:=fun ρ=>IH (pre ++ [p]) o ρ (by rw[hk];simp);rw[Ls]at h3;rw[Qd F.f197l0.eq_1];by_cases c1:QD p.1=0
  ·cases c2:WV p.1
   ·by_cases c3:p.2=0
    ·simp[h0,h9,h10,h11,hg,hlt,h1,h2,c1,c2,c3,vPL]
    ·by_cases c4:p.2 < -1000
     ·simp[h0,h9,h10,h11,hg,hlt,h1,h2,c1,c2,c3,c4,vPL,Wm]
     ·by_cases c5:1000 < p.2
      ·simp[h0,h9,h10,h11,hg,hlt,h1,h2,c1,c2,c3,c4,c5,vPL,Wm]
      ·rcases List.eq_nil_or_concat pre with rfl | ⟨pre2,q,rfl⟩
       ·have h11':ρ 11= .int .i64 0:=h11;have hg':l[0]? =some p:=hg;have hlt':0 < l.length:=by omega
        have hw0:IntKind.i64.wrap 1=1:=rfl;clear h11 hg hlt hw1;simp[-getElem?_pos,h0,h9,h10,h11',hg',hlt',hw0,h1,h2,c1,c2,c3,c4,c5,vPL,Wm,Dv,gtO];refine h3 _ ?_ ?_ ?_ ?_ <;> simp[h0,h9,h10]
       ·have hg2:l[pre2.length]? =some q:=by rw[hk];simp
        have hq:=hm q (by rw[hk];simp);have h4:=call_Compare q.1 p.1 bs hq hmp;have hp0: (0:Int) < (pre2.length:Int)+1:=by omega
        have hp1: (0:Int)≤(pre2.length:Int)+1:=by omega
        have hp2: ((pre2.length:Int)+1).toNat=pre2.length+1:=by omega
        have hw2:IntKind.i64.wrap (pre2.length:Int)=(pre2.length:Int):=Qq (by simp at hll;omega) (by simp at hll;omega);simp only[List.concat_eq_append]at *;rw[Ls];simp only[List.length_append,List.length_singleton,Int.natCast_add,Int.natCast_one]at h11 hg hlt hw1 h3;by_cases c6:Qh q.1 p.1 < 0
        ·have c6': ¬0≤Qh q.1 p.1:=by omega
         simp[h0,h9,h10,h11,hg,hg2,hlt,hw1,hw2,hp0,hp1,hp2,h1,h2,h4,c1,c2,c3,c4,c5,c6,c6',vPL,Wm,gtO];refine h3 _ ?_ ?_ ?_ ?_ <;> simp[h0,h9,h10]
        ·have c6':0≤Qh q.1 p.1:=by omega
         simp[h0,h9,h10,h11,hg,hg2,hlt,hw1,hw2,hp0,hp1,hp2,h1,h2,h4,c1,c2,c3,c4,c5,c6,c6',vPL,Wm,gtO]
   ·simp[h0,h9,h10,h11,hg,hlt,h1,h2,c1,c2,vPL]
  ·simp[h0,h9,h10,h11,hg,hlt,h1,h2,c1,vPL]
theorem Rg (l:List Pw) (o:Bool) (bs:List (List AV)) (hl:l.length < 100000000) (hm: ∀q∈l,q.1.mass < big):call F.tb 197 [.sl o 5 (QU l)] bs=some (.int .i64 (ZQ l),bs):=by
 have h:=fun ρ=>F0 l bs hl hm l [] false ρ rfl;rw[Qa F.tb_197 _ _ rfl];by_cases c:200 < l.length
 ·have c': (200:Int) < (l.length:Int):=by omega
  simp[F.f197C,c,c',ZQ]
 ·have c': ¬(200:Int) < (l.length:Int):=by omega
  simp[F.f197C,c,c',ZQ];refine h _ ?_ ?_ ?_ ?_ <;> simp
theorem Mp: ∀(l:List Pw) (prev:Option Tm),vPL prev l=0→(∀q∈l,QD q.1=0∧WV q.1=false∧q.2≠0∧ -1000≤q.2∧q.2≤1000)∧Asc (ZS l)∧(∀a,prev=some a→∀q∈l,Qh a q.1 < 0)
 | [],prev,_=>⟨fun q h=>by simp at h,Asc.nil,fun a _ q h=>by simp at h⟩
 | p:: r,prev,h=>by
  simp only[vPL]at h;split at h
  ·rename_i c;exact absurd h c
  rename_i c1;split at h
  ·cases h
  rename_i c2;split at h
  ·cases h
  rename_i c3;split at h
  ·rename_i c4;obtain⟨h1,h2,h3⟩:=Mp r (some p.1) h;have hpr:=h3 p.1 rfl;refine⟨fun q hq=> ?_,?_,?_⟩
   ·rcases List.mem_cons.1 hq with rfl | hq
    ·simp[Wm]at c3;exact⟨by simpa using c1,by simpa using c2,c3.1,c3.2.1,c3.2.2⟩
    ·exact h1 q hq
   ·simp only[ZS,List.map_cons];refine Yf.2 ⟨fun y hy=> ?_,h2⟩;obtain⟨q,hq,rfl⟩:=List.mem_map.1 hy;exact hpr q hq
   ·intro a ha q hq;subst ha;have c5:Qh a p.1 < 0:=by simpa[gtO]using c4
    rcases List.mem_cons.1 hq with rfl | hq
    ·exact c5
    ·exact Z4 c5 (hpr q hq)
  ·cases h
theorem TU {l:List Pw} (h:ZQ l=0) (hm: ∀q∈l,q.1.mass < big):W7 l 1000∧l.length≤200∧∀q∈l,QD q.1=0∧WV q.1=false:=by
 unfold ZQ at h;split at h
 ·cases h
 ·obtain⟨h1,h2,_⟩:=Mp l none h;exact⟨⟨h2,fun q hq=>(h1 q hq).2.2.1,by omega,fun q hq=>⟨hm q hq,(h1 q hq).2.2.2.1,(h1 q hq).2.2.2.2⟩⟩,by omega,fun q hq=>⟨(h1 q hq).1,(h1 q hq).2.1⟩⟩
def S3 (t:Tm):Tm:= .mk 3 INV 0 [t]
def Wg (l:List Pw):List Tm:=(l.map fun p=>List.replicate p.2.toNat p.1).flatten
def Wf (l:List Pw):List Tm:=(l.map fun p=>List.replicate (-p.2).toNat (S3 p.1)).flatten
def Yl (l:List Pw):List Tm:=Wg l ++ Wf l
def YL:List Tm→Tm
 | []=> .mk 3 ONE 0 []
 | [p]=>p
 | p:: q:: r=> .mk 3 MUL 0 (p:: q:: r)
def YB (l:List Pw):Tm×Int:=
 if ZQ l≠0 then(Qs,ZQ l)else if 8 < (Yl l).length then(Qs,3)else if QD (YL (Yl l))≠0 then(Qs,QD (YL (Yl l)))else(YL (Yl l),0)
theorem AA (a:List Pw) (p:Pw):Wg (a ++ [p])=Wg a ++ List.replicate p.2.toNat p.1:=by simp[Wg]
theorem Ap (a:List Pw) (p:Pw):Wf (a ++ [p])=Wf a ++ List.replicate (-p.2).toNat (S3 p.1):=by simp[Wf]
theorem JT {l:List Pw} (h: ∀q∈l,q.2≤8): (Wg l).length≤8*l.length:=by
 induction l with
 | nil=>simp[Wg]
 | cons p l ih=>
  have h1:=ih fun q hq=>h q (by simp[hq]);have h2:=h p (by simp);simp only[Wg,List.map_cons,List.flatten_cons,List.length_append,List.length_replicate,List.length_cons]at h1 ⊢;omega
theorem JI {l:List Pw} (h: ∀q∈l,-8≤q.2): (Wf l).length≤8*l.length:=by
 induction l with
 | nil=>simp[Wf]
 | cons p l ih=>
  have h1:=ih fun q hq=>h q (by simp[hq]);have h2:=h p (by simp);simp only[Wf,List.map_cons,List.flatten_cons,List.length_append,List.length_replicate,List.length_cons]at h1 ⊢;omega
theorem AB {l:List Pw} {p:Pw} (h:p∈l):p.2.toNat≤(Wg l).length:=by
 induction l with
 | nil=>simp at h
 | cons q l ih=>
  simp only[Wg,List.map_cons,List.flatten_cons,List.length_append,List.length_replicate]at ih ⊢;rcases List.mem_cons.1 h with rfl | h
  ·omega
  ·have:=ih h;omega
theorem Aq {l:List Pw} {p:Pw} (h:p∈l): (-p.2).toNat≤(Wf l).length:=by
 induction l with
 | nil=>simp at h
 | cons q l ih=>
  simp only[Wf,List.map_cons,List.flatten_cons,List.length_append,List.length_replicate]at ih ⊢;rcases List.mem_cons.1 h with rfl | h
  ·omega
  ·have:=ih h;omega
theorem Mz (n:List UInt8) (ks:List Tm) (o:Bool) (bs:List (List AV)):call F.tb 198 [.str n,.sl o 4 (encTs ks)] bs=some (.agg (Qb (.mk 3 n 0 ks)),bs):=by
 rw[Qa F.tb_198 _ _ rfl];simp[F.f198,F.f198C,V3]
theorem H8 {k:Nat} (acc:List Tm) (x:Tm): (acc ++ [x])++ List.replicate k x=acc ++ List.replicate (k+1) x:=by simp[List.replicate_succ]
theorem Qdh {p:Pw} {bs:List (List AV)} (hp:p.1.mass < big) (hN: -8≤p.2∧p.2≤8) (c:AC) (K:Kn) (X:Out): ∀(k:Nat) (acc:List Tm) (i:Nat) (ρ:Nat→AV),i+k=p.2.toNat→acc.length+k < 100000000→ρ 5= .sl true 4 (encTs acc)→ρ 8= .bx (Qw p)→ρ 34= .int .i64 p.2→ρ 35= .int .i64 i→
  (∀ρ':Nat→AV,ρ' 5= .sl true 4 (encTs (acc ++ List.replicate k p.1))→(∀j,j < 34→j≠5→ρ' j=ρ j)→R F.tb c ρ' bs K=X)→
  R F.tb (.loop F.f196l0) ρ bs (Qi 2 (Qu F.tb c K))=X:=by
 intro k
 induction k with
 | zero=>
  intro acc i ρ hi hl h5 h8 h34 h35 h;have hn: ¬(i:Int) < p.2:=by omega
  rw[Qd F.f196l0.eq_1];simp[h5,h8,h34,h35,hn];apply h
  ·simp[h5]
  ·intro j hj h5j;have:j≠36:=by omega
   simp[this]
 | succ k IH=>
  intro acc i ρ hi hl h5 h8 h34 h35 h;have hn: (i:Int) < p.2:=by omega
  have hw1:IntKind.i64.wrap ((i:Int)+1)=((i+1:Nat):Int):=by rw[Qq (by omega) (by omega)];omega
  have hb: (acc.length+1)*56≤140737488355328:=VI (by omega);have hc:=U7 p.1 bs hp;rw[Qd F.f196l0.eq_1];simp[h5,h8,h34,h35,hn,hw1,hb,hc,XC,Yg];refine IH (acc ++ [p.1]) (i+1) _ (by omega) (by simp;omega) ?_ ?_ ?_ ?_ ?_
  ·simp
  ·simp[h8]
  ·simp[h34]
  ·simp
  ·intro ρ' g5 gj;rw[H8]at g5;refine h ρ' g5 fun j hj h5j=> ?_;rw[gj j hj h5j];have e1:j≠35:=by omega
   have e2:j≠36:=by omega
   have e3:j≠37:=by omega
   have e4:j≠38:=by omega
   have e5:j≠39:=by omega
   have e6:j≠40:=by omega
   have e7:j≠41:=by omega
   have e8:j≠42:=by omega
   have e9:j≠43:=by omega
   simp[*]
theorem Qdi {p:Pw} {bs:List (List AV)} (hp:p.1.mass < big) (hN: -8≤p.2∧p.2≤8) (c:AC) (K:Kn) (X:Out): ∀(k:Nat) (acc:List Tm) (i:Nat) (ρ:Nat→AV),i+k=(-p.2).toNat→acc.length+k < 100000000→ρ 6= .sl true 4 (encTs acc)→ρ 8= .bx (Qw p)→ρ 46= .int .i64 (-p.2)→ρ 47= .int .i64 i→
  (∀ρ':Nat→AV,ρ' 6= .sl true 4 (encTs (acc ++ List.replicate k (S3 p.1)))→(∀j,j < 34→j≠6→ρ' j=ρ j)→R F.tb c ρ' bs K=X)→
  R F.tb (.loop F.f196l1) ρ bs (Qi 4 (Qi 1 (Qu F.tb c K)))=X:=by
 intro k
 induction k with
 | zero=>
  intro acc i ρ hi hl h6 h8 h46 h47 h;have hn: ¬(i:Int) < -p.2:=by omega
  rw[Qd F.f196l1.eq_1];simp[h6,h8,h46,h47,hn];apply h
  ·simp[h6]
  ·intro j hj h5j;have:j≠48:=by omega
   simp[this]
 | succ k IH=>
  intro acc i ρ hi hl h6 h8 h46 h47 h;have hn: (i:Int) < -p.2:=by omega
  have hw1:IntKind.i64.wrap ((i:Int)+1)=((i+1:Nat):Int):=by rw[Qq (by omega) (by omega)];omega
  have hb: (acc.length+1)*56≤140737488355328:=VI (by omega);have hc:=U7 p.1 bs hp;have hc2:=Mz INV [p.1] false bs;simp only[INV]at hc2;rw[Qd F.f196l1.eq_1];simp[h6,h8,h46,h47,hn,hw1,hb,hc,hc2,XC];rw[show Qb (Tm.mk 3 [105,110,118] 0 [p.1])=Qb (S3 p.1)from rfl];simp[XC,Yg];refine IH (acc ++ [S3 p.1]) (i+1) _ (by omega) (by simp;omega) ?_ ?_ ?_ ?_ ?_
  ·simp[S3,INV]
  ·simp[h8]
  ·simp[h46]
  ·simp
  ·intro ρ' g6 gj;rw[H8]at g6;refine h ρ' g6 fun j hj h5j=> ?_;rw[gj j hj h5j];have e1:j≠47:=by omega
   have e2:j≠48:=by omega
   have e3:j≠49:=by omega
   have e4:j≠50:=by omega
   have e5:j≠51:=by omega
   have e6:j≠52:=by omega
   have e7:j≠53:=by omega
   have e8:j≠54:=by omega
   have e9:j≠55:=by omega
   have e10:j≠56:=by omega
   have e11:j≠57:=by omega
   simp[*]
theorem Qdk (l:List Pw) (bs:List (List AV)) (hv:ZQ l=0) (hl: (Yl l).length < 100000000) (hm:massL (Yl l) < big - 100) (ρ:Nat→AV) (h2:ρ 2= .bx [.int .i64 0,.str [],.int .i64 0,.sl true 4 []]) (h5:ρ 5= .sl true 4 (encTs (Wg l))) (h6:ρ 6= .sl true 4 (encTs (Wf l))):
  R F.tb F.f196r2 ρ bs (Qy F.f196 bs)=some (ZO (YB l),bs):=by
 have hc:=U5 [Wg l,Wf l] false bs (by simp) (by simpa[Yl]using hl);have hfl: [Wg l,Wf l].flatten=Yl l:=by simp[Yl]
 rw[hfl]at hc;simp only[VG,List.map_cons,List.map_nil]at hc;have ha:=Mz MUL (Yl l) false bs;have ha1:=Mz ONE [] true bs;simp only[MUL]at ha;simp only[ONE,encTs]at ha1;by_cases c8:8 < (Yl l).length
 ·have c8': (8:Int) < ((Yl l).length:Int):=by omega
  have e:YB l=(Qs,3):=by simp[YB,hv,c8]
  rw[e];simp[F.f196r2,h2,h5,h6,hc,c8',ZO,Zf]
 ·have c8': ¬(8:Int) < ((Yl l).length:Int):=by omega
  have hpm: (YL (Yl l)).mass < big:=by
   unfold big at *
   match h:Yl l with
   | []=>simp[YL,Qr,massL,ONE]
   | [p]=>rw[h]at hm;simp[YL,massL]at hm ⊢;omega
   | p:: q:: r=>rw[h]at hm c8;simp[YL,Qr,massL,MUL]at hm c8 ⊢;omega
  have hvv:=XZ (YL (Yl l)) bs hpm;have e:YB l=if QD (YL (Yl l))≠0 then(Qs,QD (YL (Yl l)))else(YL (Yl l),0):=by simp[YB,hv,c8]
  rw[e];generalize hL:Yl l=L at *
  match L,hL with
  | [],hL=>
   simp only[YL,ONE]at hvv;simp only[encTs]at ha hc;by_cases cv:QD (.mk 3 [111,110,101] 0 [])=0
   ·rw[cv]at hvv;simp[F.f196r2,h2,h5,h6,hc,ha,ha1,hvv,cv,ZO,YL,ONE]
   ·simp[F.f196r2,h2,h5,h6,hc,ha,ha1,hvv,cv,ZO,Zf,YL,ONE]
  | [p],hL=>
   simp only[YL]at hvv;by_cases cv:QD p=0
   ·rw[cv]at hvv;simp[F.f196r2,h2,h5,h6,hc,ha,hvv,cv,ZO,YL]
   ·simp[F.f196r2,h2,h5,h6,hc,ha,hvv,cv,ZO,Zf,YL]
  | p:: q:: r,hL=>
   simp only[YL,MUL]at hvv;have c8'': ¬(8:Int) < (r.length:Int)+1+1:=by simpa using c8'
   have n0: ¬(r.length:Int)+1+1=0:=by omega
   have n1: ¬(r.length:Int)+1+1=1:=by omega
   by_cases cv:QD (.mk 3 [109,117,108] 0 (p:: q:: r))=0
   ·rw[cv]at hvv;simp[F.f196r2,h2,h5,h6,hc,ha,hvv,cv,c8'',n0,n1,ZO,YL,MUL]
   ·simp[F.f196r2,h2,h5,h6,hc,ha,hvv,cv,c8'',n0,n1,ZO,Zf,YL,MUL]
theorem Qdj (l:List Pw) (bs:List (List AV)) (hv:ZQ l=0) (hl:l.length < 5000000) (hk: ∀q∈l,q.1.mass < big) (hm: (∀q∈l,-8≤q.2∧q.2≤8)→massL (Yl l) < big - 100):
  ∀(post pre:List Pw) (ρ:Nat→AV),l=pre ++ post→(∀q∈pre,-8≤q.2∧q.2≤8)→ρ 2= .bx [.int .i64 0,.str [],.int .i64 0,.sl true 4 []]→ρ 5= .sl true 4 (encTs (Wg pre))→ρ 6= .sl true 4 (encTs (Wf pre))→
   ρ 18= .sl false 5 (QU l)→ρ 19= .int .i64 l.length→ρ 20= .int .i64 pre.length→
  R F.tb (.loop F.f196l2) ρ bs (Qi 0 (Qu F.tb F.f196r2 (Qy F.f196 bs)))=some (ZO (YB l),bs):=by
 intro post
 induction post with
 | nil=>
  intro pre ρ hkk hq h2 h5 h6 h18 h19 h20;simp only[List.append_nil]at hkk;subst hkk;have hr:=Qdk l bs hv (by
   have h1:=JT (l:=l) fun q h=>(hq q h).2;have h2:=JI (l:=l) fun q h=>(hq q h).1;simp only[Yl,List.length_append];omega) (hm hq)
  rw[Qd F.f196l2.eq_1];simp[h18,h19,h20];apply hr <;> simp[h2,h5,h6]
 | cons p post IH=>
  intro pre ρ hkk hq h2 h5 h6 h18 h19 h20;have hg:=QB hkk;have hll:l.length=pre.length+ (post.length+1):=by rw[hkk];simp
  have hw1:=wr1 pre.length (by omega);have hlt: (pre.length:Int) < (l.length:Int):=by omega
  have hpl:p∈l:=by rw[hkk];simp
  have hmp:=hk p hpl;have hbig: ∀n,n < (Yl l).length→8≤n→YB l=(Qs,3):=by
   intro n h1 h2;have:8 < (Yl l).length:=by omega
   simp[YB,hv,this]
  rw[Qd F.f196l2.eq_1];by_cases c1:8 < p.2
  ·have h1:=AB hpl;have e:=hbig 8 (by simp only[Yl,List.length_append];omega) (by omega);rw[e];simp[h2,h5,h6,h18,h19,h20,hg,hlt,c1,ZO,Zf]
  ·by_cases c2:p.2 < -8
   ·have h1:=Aq hpl;have e:=hbig 8 (by simp only[Yl,List.length_append];omega) (by omega);rw[e];simp[h2,h5,h6,h18,h19,h20,hg,hlt,c1,c2,ZO,Zf]
   ·have hN: -8≤p.2∧p.2≤8:=by omega
    have hw:IntKind.i64.wrap (-p.2)= -p.2:=Qq (by omega) (by omega);have hq2: ∀q∈pre ++ [p],-8≤q.2∧q.2≤8:=by
     intro q h;rcases List.mem_append.1 h with h | h
     ·exact hq q h
     ·simp at h;subst h;exact hN
    have h1:=JT (l:=pre) fun q h=>(hq q h).2;have h3:=JI (l:=pre) fun q h=>(hq q h).1;have ih:=fun ρ=>IH (pre ++ [p]) ρ (by rw[hkk];simp) hq2;simp[h2,h5,h6,h18,h19,h20,hg,hlt,c1,c2];refine Qdh hmp hN _ _ _ p.2.toNat (Wg pre) 0 _ (by omega) (by omega) ?_ ?_ ?_ ?_ ?_
    ·simp[h5]
    ·simp
    ·simp
    ·simp
    ·intro ρ' g5 gj;have g2:ρ' 2=_:=gj 2 (by omega) (by omega);have g6:ρ' 6=_:=gj 6 (by omega) (by omega);have g8:ρ' 8=_:=gj 8 (by omega) (by omega);have g18:ρ' 18=_:=gj 18 (by omega) (by omega);have g19:ρ' 19=_:=gj 19 (by omega) (by omega);have g20:ρ' 20=_:=gj 20 (by omega) (by omega);simp[h2,h6,h18,h19,h20]at g2 g6 g8 g18 g19 g20;simp[F.f196r0,g8,hw];refine Qdi hmp hN _ _ _ (-p.2).toNat (Wf pre) 0 _ (by omega) (by omega) ?_ ?_ ?_ ?_ ?_
     ·simp[g6]
     ·simp[g8]
     ·simp
     ·simp
     ·intro ρ'' k6 kj;have k2:ρ'' 2=_:=kj 2 (by omega) (by omega);have k5:ρ'' 5=_:=kj 5 (by omega) (by omega);have k18:ρ'' 18=_:=kj 18 (by omega) (by omega);have k19:ρ'' 19=_:=kj 19 (by omega) (by omega);have k20:ρ'' 20=_:=kj 20 (by omega) (by omega);simp[g2,g5,g18,g19,g20]at k2 k5 k18 k19 k20;simp[F.f196r1,k20,hw1];apply ih <;> simp[k2,k5,k6,k18,k19,AA,Ap]
theorem Qbi (l:List Pw) (o:Bool) (bs:List (List AV)) (hl:l.length < 5000000) (hk: ∀q∈l,q.1.mass < big) (hm: (∀q∈l,-8≤q.2∧q.2≤8)→massL (Yl l) < big - 100):
  call F.tb 196 [.sl o 5 (QU l)] bs=some (ZO (YB l),bs):=by
 have h1:=Rg l false bs (by omega) hk;rw[Qa F.tb_196 _ _ rfl];by_cases hv:ZQ l=0
 ·have h:=fun ρ=>Qdj l bs hv hl hk hm l [] ρ rfl (by simp);simp[F.f196C,h1,hv];apply h <;> simp[Wg,Wf,encTs]
 ·have e:YB l=(Qs,ZQ l):=by simp[YB,hv]
  rw[e];simp[F.f196C,h1,hv,ZO,Zf]
theorem V2:QU []=[]:=rfl
def WM (a:List Pw):List Pw→List Pw
 | []=>a
 | q:: b=>WM (Y0 a q.1 q.2) b
def Xp (l:List Pw):Int:=if l.any (fun q=>Wm q.2)then 7 else if 200 < l.length then 3 else 0
def UY (a b:List Pw):Int:=if ZQ a≠0 then ZQ a else if ZQ b≠0 then ZQ b else Xp (WM a b)
def Vx (a b:List Pw):List Pw:=if UY a b=0 then WM a b else []
theorem QeJ {B0 B:List (List AV)} {v:AV} {l:List Pw} (p:Pw) (o:Bool) (h:PS B0 B v l) (hl:l.length < 50000000): ∃v' B',appM 64 5 v (.sl o 5 [Qw p]) B=some (v',B')∧PS B0 B' v' (l ++ [p]):=by
 obtain⟨M,id,sz,rfl,rfl,hc⟩:=h;have hb: (l.length+1)*64≤140737488355328:=Qfw (by omega);have hs:Xd 5 (.sl o 5 [Qw p]) (B0 ++ M)=some (1,Qw p):=by simp[Xd]
 rcases hc with⟨rfl,rfl,rfl⟩ | ⟨rfl,hid,t,hbx,hne⟩
 ·refine⟨.gs (B0 ++ M).length 0 5 1,B0 ++ (M ++ [Qw p]),?_,M ++ [Qw p],(B0 ++ M).length,5,rfl,rfl,.inr ⟨rfl,by simp,[],?_,?_⟩⟩
  ·simp[appM,hs]
  ·rw[← List.append_assoc,List.getElem?_concat_length];simp[QF,Zs]
  ·simp[QF,Zs,HL]
 ·have hlt:=Zp hbx;have hr:=YR l;have hle:l.length*5≤(QF l ++ t).length:=by rw[List.length_append,hr];omega
  have hrow:QF (l ++ [p])=QF l ++ Qw p:=by simp[QF,XH,T1]
  have htk: (QF l ++ t).take (l.length*5)=QF l:=by rw[← hr,List.take_left]
  have hne2: ∀x:List AV,QF l ++ (Qw p ++ x)≠[]:=fun x e=>by
   have:=congrArg List.length e;simp at this
  by_cases hroom: (l.length+1)*5≤(QF l ++ t).length
  ·refine⟨.gs id 0 5 (l.length+1),(B0 ++ M).set id (QF l ++ (Qw p ++ (QF l ++ t).drop (l.length*5+5))),?_,_,id,5,Xo hid _,by simp,.inr ⟨rfl,hid,(QF l ++ t).drop (l.length*5+5),?_,?_⟩⟩
   ·simp only[appM,hs,Option.bind_some];rw[if_pos ⟨by omega,hb⟩,if_neg (by omega),if_neg (by omega),if_pos ⟨trivial,trivial⟩,hbx];simp only[Option.bind_some];rw[if_pos ⟨hne,hle⟩,if_pos hroom];simp only[put,htk,ZX];simp
   ·have:id < (B0 ++ M).length:=hlt;rw[List.getElem?_set,if_pos rfl,if_pos this,hrow];simp
   ·rw[hrow,List.append_assoc];exact hne2 _
  ·refine⟨.gs (B0 ++ M).length 0 5 (l.length+1),(B0 ++ M).set id []++ [QF l ++ Qw p],?_,M.set (id - B0.length) []++ [QF l ++ Qw p],(B0 ++ M).length,5,?_,by simp,.inr ⟨rfl,by simp,[],?_,?_⟩⟩
   ·have hst: (QF l).map AV.strip=QF l:=Zr Yx l;simp only[appM,hs,Option.bind_some];rw[if_pos ⟨by omega,hb⟩,if_neg (by omega),if_neg (by omega),if_pos ⟨trivial,trivial⟩,hbx];simp only[Option.bind_some];rw[if_pos ⟨hne,hle⟩,if_neg hroom,htk,hst]
   ·rw[Xo hid,List.append_assoc]
   ·have e: (B0 ++ M).length=((B0 ++ M).set id []).length:=by simp
    rw[hrow,List.append_nil,e,List.getElem?_concat_length]
   ·rw[hrow,List.append_nil];have:=hne2 [];simpa using this
theorem IJ (l:List Pw) (B0 K:List (List AV)) (hl:l.length < 40000000) (hm: ∀q∈l,q.1.mass < big):
  ∀(post pre:List Pw) (B:List (List AV)) (v:AV) (ρ:Nat→AV),l=pre ++ post→PS B0 B v pre→ρ 3=v→ρ 6= .sl false 5 (QU l)→ρ 7= .int .i64 l.length→ρ 8= .int .i64 pre.length→
  CO B0 l (R F.tb (.loop F.f201l0) ρ B (Qi 0 (Qu F.tb F.f201r0 (Qy F.f201 K)))):=by
 intro post
 induction post with
 | nil=>
  intro pre B v ρ hk hps h3 h6 h7 h8;simp only[List.append_nil]at hk;subst hk;obtain⟨id,sz,rfl⟩:=WH hps;rw[Qd F.f201l0.eq_1];refine⟨_,B,?_,hps⟩;simp[h3,h6,h7,h8,F.f201r0]
 | cons p post IH=>
  intro pre B v ρ hk hps h3 h6 h7 h8;have hg:=QB hk;have hll:=QM hk;have hw1:=wr1 pre.length (by omega);have hlt:=QO hk;have hc:=U7 p.1 B (hm p (by rw[hk];simp));obtain⟨v2,B2,ha,hps2⟩:=QeJ p false hps (by omega);have ih:=fun ρ=>IH (pre ++ [p]) B2 v2 ρ (by rw[hk];simp) hps2;obtain⟨id,sz,rfl⟩:=WH hps;obtain⟨id2,sz2,rfl⟩:=WH hps2;have hf:Qb p.1 ++ [.int .i64 p.2]=Qw p:=rfl;rw[Qd F.f201l0.eq_1];simp[h3,h6,h7,h8,hg,hlt,hw1,hc,List.take_append,List.drop_append,hf,ha];apply ih <;> simp[h6,h7]
theorem Qbl (l:List Pw) (o:Bool) (B0:List (List AV)) (hl:l.length < 40000000) (hm: ∀q∈l,q.1.mass < big):CO B0 l (call F.tb 201 [.sl o 5 (QU l)] B0):=by
 have h:=fun ρ=>IJ l B0 B0 hl hm l [] B0 _ ρ rfl (DR B0);rw[Qa F.tb_201 _ _ rfl];simp[F.f201C];apply h <;> simp
theorem Qbn (p:Pw) (B:List (List AV)):call F.tb 203 [.agg (Qw p)] B=some (.bool (Wm p.2),B):=by
 rw[Qa F.tb_203 _ _ rfl];by_cases c4:p.2 < -1000
 ·simp[F.f203C,Wm,c4]
 ·by_cases c5:1000 < p.2
  ·simp[F.f203C,Wm,c4,c5]
  ·simp[F.f203C,Wm,c4,c5]
def Mt (b:Bool) (B:List (List AV)) (r:Out):Prop:=∃i:Int,r=some (.int .i64 i,B)∧(0≤i↔b=true)
theorem Qct {B0 B:List (List AV)} {v:AV} {l:List Pw} (h:PS B0 B v l) (hl:l.length < 100000000):
  ∀(post pre:List Pw) (ρ:Nat→AV),l=pre ++ post→pre.any (fun q=>Wm q.2)=false→ρ 0=v→ρ 1= .fn 203 []→ρ 7= .int .i64 l.length→ρ 8= .int .i64 pre.length→
  Mt (l.any fun q=>Wm q.2) B (R F.tb (.loop F.f205l0) ρ B (Qi 0 (Qu F.tb F.f205r0 (Qy F.f205 B)))):=by
 obtain⟨M,id,sz,rfl,rfl,hc⟩:=h;have htk: (B0 ++ M).take (B0.length+M.length)=B0 ++ M:=List.take_of_length_le (by simp);intro post
 induction post with
 | nil=>
  intro pre ρ hk hp h0 h1 h7 h8;simp only[List.append_nil]at hk;rw[← hk]at h8 hp;rw[Qd F.f205l0.eq_1];refine⟨-1,?_,by rw[hp];simp⟩;simp[h0,h1,h7,h8,F.f205r0,htk]
 | cons p post IH=>
  intro pre ρ hk hp h0 h1 h7 h8;have hg:=QB hk;have hll:=QM hk;have hw1:=wr1 pre.length (by omega);have hlt:=QO hk;have hlt':pre.length < l.length:=by omega
  rcases hc with⟨rfl,rfl,rfl⟩ | ⟨rfl,hid,t,hbx,hne⟩
  ·simp at hlt'
  have r1:=MU (l:=l) (Og hg t);have hle:pre.length*5+5≤(QF l ++ t).length:=by rw[List.length_append,YR];omega
  have hcall:=Qbn p (B0 ++ M);have ih:=fun ρ hpp=>IH (pre ++ [p]) ρ (by rw[hk];simp) hpp;generalize QF l ++ t=c at *;rw[Qd F.f205l0.eq_1];cases ho:Wm p.2
  ·have ih2:=fun ρ=>ih ρ (by rw[List.any_append,hp];simp[ho]);simp[-getElem?_pos,h0,h1,h7,h8,hlt,hlt',hw1,hbx,hle,r1,hcall,ho,-List.any_eq_false,-List.any_eq_true];apply ih2 <;> simp[h0,h1,h7]
  ·have hany:l.any (fun q=>Wm q.2)=true:=List.any_eq_true.2 ⟨p,by rw[hk];simp,ho⟩;refine⟨pre.length,?_,by rw[hany];simp⟩;simp[-getElem?_pos,h0,h1,h7,h8,hlt,hlt',hbx,hle,r1,hcall,ho,htk]
theorem Qbo {B0 B:List (List AV)} {v:AV} {l:List Pw} (h:PS B0 B v l) (hl:l.length < 100000000):call F.tb 204 [v,.fn 203 []] B=some (.bool (l.any fun q=>Wm q.2),B):=by
 have h1:=fun ρ=>Qct h hl l [] ρ rfl rfl;obtain⟨id,sz,rfl⟩:=WH h;have h2:Mt (l.any fun q=>Wm q.2) B (call F.tb 205 [.gs id 0 sz l.length,.fn 203 []] B):=by
  rw[Qa F.tb_205 _ _ rfl];simp[F.f205C,-List.any_eq_false,-List.any_eq_true];apply h1 <;> simp
 obtain⟨i,hi,hb⟩:=h2;rw[Qa F.tb_204 _ _ rfl];simp[F.f204C,hi,-List.any_eq_false,-List.any_eq_true];cases hx:l.any fun q=>Wm q.2
 ·rw[hx]at hb;simp at hb;simpa using hb
 ·rw[hx]at hb;simp at hb;simpa using hb
theorem QcU {B0 B:List (List AV)} {v:AV} {l:List Pw} (h:PS B0 B v l) (n:Nat): ∃o M2,(B0 ++ M2).length=B.length∧Z9 B (B0 ++ M2)=true∧∀ρ:Nat→AV,ρ n=v→Zb {env:=ρ,bs:=B} n 5=some (.sl o 5 (QU l),{env:=upd ρ n .undef,bs:=B0 ++ M2}):=by
 obtain⟨M,id,sz,rfl,rfl,hc⟩:=h;rcases hc with⟨rfl,rfl,rfl⟩ | ⟨rfl,hid,t,hb,hne⟩
 ·exact⟨true,M,rfl,SA _,fun ρ hn=>by simp[Zb,hn,QU]⟩
 ·by_cases hl:l.length=0
  ·have:l=[]:=List.eq_nil_of_length_eq_zero hl;subst this;exact⟨false,M,rfl,SA _,fun ρ hn=>by simp[Zb,hn,QU]⟩
  ·refine⟨true,M.set (id - B0.length) [],by simp,by rw[← Xo hid];exact K0 _ _,fun ρ hn=> ?_⟩;have hle:0+l.length*5≤(QF l ++ t).length:=by rw[List.length_append,YR];omega
   have hch:QY (QF l ++ t) 0 5 l.length=QU l:=YS (f:=Qw) (k:=5) ZX Yx l t;simp only[Zb,hn];rw[if_pos ⟨trivial,by omega⟩,if_neg hl,hb];simp only[Option.bind_some];rw[if_pos hle,hch,Xo hid];rfl
def Qe6 (B0:List (List AV)) (l:List Pw) (r:Out):Prop:=∃M,r=some (.tup [.sl false 5 (QU (if Xp l=0 then l else [])),.int .i64 (Xp l)],B0 ++ M)
theorem Qbm {B0 B:List (List AV)} {v:AV} {l:List Pw} (h:PS B0 B v l) (hl:l.length < 100000000):Qe6 B0 l (call F.tb 202 [v] B):=by
 have h1:=Qbo h hl;obtain⟨o,M2,hlen,hchk,hf⟩:=QcU h 9;obtain⟨M,hM⟩: ∃M,B=B0 ++ M:=by obtain⟨M,_,_,h,_⟩:=h;exact⟨M,h⟩
 subst hM;have htk: (B0 ++ M2).take (B0.length+M.length)=B0 ++ M2:=List.take_of_length_le (by rw[hlen];simp);have htk0: (B0 ++ M).take (B0.length+M.length)=B0 ++ M:=List.take_of_length_le (by simp);have hgp:=RL l;obtain⟨id,sz,rfl⟩:=WH h;rw[Qa F.tb_202 _ _ rfl];cases ha:l.any fun q=>Wm q.2
 ·rw[ha]at h1;by_cases c:200 < l.length
  ·have c': (200:Int) < (l.length:Int):=by omega
   have e:Xp l=3:=by simp only[Xp,ha,c,if_true];rfl
   refine⟨M,?_⟩;rw[e];simp[F.f202C,h1,c',V2,htk0]
  ·have c': ¬(200:Int) < (l.length:Int):=by omega
   have e:Xp l=0:=by simp only[Xp,ha,c,if_false];rfl
   refine⟨M2,?_⟩;rw[e];simp[F.f202C,h1,c',hf,htk,hchk]
 ·rw[ha]at h1;have e:Xp l=7:=by simp only[Xp,ha,if_true]
  refine⟨M,?_⟩;rw[e];simp[F.f202C,h1,V2,htk0]
theorem An (b:List Pw) (B0:List (List AV)) (hb:b.length≤200) (hbm: ∀q∈b,q.1.mass < big∧q.2≠0∧ -1000≤q.2∧q.2≤1000) (X:List Pw):
  ∀(post pre:List Pw) (acc:List Pw) (n:Nat) (B:List (List AV)) (v:AV) (ρ:Nat→AV),b=pre ++ post→PS B0 B v acc→W7 acc n→n+1000*post.length < 40000000→WM acc post=X→ρ 8=v→ρ 23= .sl false 5 (QU b)→ρ 24= .int .i64 b.length→ρ 25= .int .i64 pre.length→
  R F.tb (.loop F.f200l0) ρ B (Qi 0 (Qu F.tb F.f200r0 (Qy F.f200 B0)))=some (.tup [.sl false 5 (QU (if Xp X=0 then X else [])),.int .i64 (Xp X)],B0):=by
 intro post
 induction post with
 | nil=>
  intro pre acc n B v ρ hk hps ha hn hX h8 h23 h24 h25;simp only[List.append_nil]at hk;rw[← hk]at h25;simp only[WM]at hX;subst hX;have hal:=ha.len;obtain⟨M,hr⟩:=Qbm hps (by simp at hn;omega);obtain⟨id,sz,rfl⟩:=WH hps;rw[Qd F.f200l0.eq_1];generalize (if Xp acc=0 then acc else [])=X at *;simp[h8,h23,h24,h25,F.f200r0,hr]
 | cons p post IH=>
  intro pre acc n B v ρ hk hps ha hn hX h8 h23 h24 h25;have hg:=QB hk;have hll:=QM hk;have hw1:=wr1 pre.length (by omega);have hlt:=QO hk;obtain⟨q1,q2,q3,q4⟩:=hbm p (by rw[hk];simp);simp only[List.length_cons]at hn;have hal:=ha.len;obtain⟨v2,B2,hc,hps2⟩:=Hq (p:=p) hps (by omega) (fun q hq=>by obtain⟨a1,a2,a3⟩:=ha.bd q hq;exact⟨a1,by omega,by omega⟩) q1 (by omega) ha.asc;have ih:=fun ρ=>IH (pre ++ [p]) (Y0 acc p.1 p.2) (n+1000) B2 v2 ρ (by rw[hk];simp) hps2 (ha.add (c:=1000) q1 q2 (by omega) (by omega)) (by omega) (by rw[← hX];rfl);obtain⟨id,sz,rfl⟩:=WH hps;obtain⟨id2,sz2,rfl⟩:=WH hps2;rw[Qd F.f200l0.eq_1];simp[h8,h23,h24,h25,hg,hlt,hw1,hc];apply ih <;> simp[h23,h24]
theorem Qbk (a b:List Pw) (o o2:Bool) (bs:List (List AV)) (ha:a.length < 100000000) (hb:b.length < 100000000) (hma: ∀q∈a,q.1.mass < big) (hmb: ∀q∈b,q.1.mass < big):
  call F.tb 200 [.sl o 5 (QU a),.sl o2 5 (QU b)] bs=some (.tup [.sl false 5 (QU (Vx a b)),.int .i64 (UY a b)],bs):=by
 have h1:=Rg a false bs ha hma;have h2:=Rg b false bs hb hmb;rw[Qa F.tb_200 _ _ rfl];by_cases va:ZQ a=0
 ·by_cases vb:ZQ b=0
  ·obtain⟨ia,la,_⟩:=TU va hma;obtain⟨ib,lb,_⟩:=TU vb hmb;obtain⟨v,B,hc,hps⟩:=Qbl a false bs (by omega) hma;have h3:=fun ρ=>An b bs lb (fun q hq=>by obtain⟨x1,x2,x3⟩:=ib.bd q hq;exact⟨x1,ib.nz q hq,x2,x3⟩) _ b [] a 1000 B v ρ rfl hps ia (by omega) rfl;obtain⟨id,sz,rfl⟩:=WH hps;have e1:UY a b=Xp (WM a b):=by simp[UY,va,vb]
   have e2:Vx a b=if Xp (WM a b)=0 then WM a b else []:=by simp[Vx,e1]
   rw[e1,e2];simp[F.f200C,h1,h2,va,vb,hc];apply h3 <;> simp
  ·have e1:UY a b=ZQ b:=by simp[UY,va,vb]
   have e2:Vx a b=[]:=by simp[Vx,e1,vb]
   rw[e1,e2];simp[F.f200C,h1,h2,va,vb,V2]
 ·have e1:UY a b=ZQ a:=by simp[UY,va]
  have e2:Vx a b=[]:=by simp[Vx,e1,va]
  rw[e1,e2];simp[F.f200C,h1,va,V2]
end Go.Am
