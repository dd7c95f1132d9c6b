/-
  Rc14, Rc15, Rc16, Rc17, Rc18.
-/
import Derived.Test.YtjkjecpalfmohaaGreatDoorG17
set_option linter.all false
open Go.Am.F
namespace Go.Am
set_option maxRecDepth 20000
@[simp] def Qa7 (t:Tm): (Qf t).drop 5=[]:=by simp[Zt]
def QlD (l:Qj) (id:Nat) (B:Qa) (r:Out):Prop:=∃t,t≠[]/\r=some (.gs id 0 5 l.length,B.set id (QX l ++ t))
def QiG {pre post:Qj} {p:Pw} {id n:Nat} {B:Qa} {t:Qh} (hn:n=pre.length+1+post.length) (hl:n < 100000000) (hb:B[id]? =some (QX (pre ++ p:: post)++ t)):
  QlD (pre ++ post) id B (call tb 195 [.gs id 0 5 n,.int .i64 pre.length,.int .i64 ((pre.length:Int)+1)] B):=by
 have hlt:=YT hb;have e1: (0:Int)<=(pre.length:Int):=by omega
 have e2: (pre.length:Int)<=(pre.length:Int)+1:=by omega
 have e3: (pre.length:Int)+1<=(n:Int):=by omega
 have e4: (0:Int)<=(pre.length:Int)+1:=by omega
 have e5: ¬(pre.length:Int)=(pre.length:Int)+1:=by omega
 have e6: (pre.length:Int)<=(n:Int):=by omega
 have e7: ((pre.length:Int)+1).toNat=pre.length+1:=by omega
 have e8:n - (pre.length+1)=post.length:=by omega
 have e9: (pre.length+post.length)=n - 1:=by omega
 have e10:n - (n - 1)=1:=by omega
 have e11: ((n - 1:Nat):Int)<=(n:Int):=by omega
 have hl0: (QX pre).length=pre.length*5:=XK pre;have hp0: (QX post).length=post.length*5:=XK post;have hst: (QX post).map AV.strip=QX post:=YV V4 post;have hrl: (QX (pre ++ p:: post)++ t).length=n*5+t.length:=by rw[Zk,XK];simp;omega
 have htk:=Rv (f:=Zx) (k:=5) Vh (l:=pre ++ p:: post) (pre:=pre) (post:=p:: post) rfl t;have hdr:=Mr (f:=Zx) (k:=5) Vh (l:=pre ++ p:: post) (pre:=pre ++ [p]) (post:=post) (by simp) t;rw[Zk,RA]at hdr;have hne:QX (pre ++ p:: post)++ t≠[]:=by
  intro e;have:=WF List.length e;rw[hrl]at this;simp at this;omega
 have hb56:n*64<=140737488355328:=by omega
 have hb57:pre.length*64<=140737488355328:=by omega
 have hb58: (pre.length+post.length)*64<=140737488355328:=by omega
 have hq2: (n:Int)<=((QX (pre ++ p:: post)++ t).length:Int) / 5:=by rw[hrl];omega
 have e13:pre.length<=n:=by omega
 rw[zcc 195 rfl rfl];generalize hcc:QX (pre ++ p:: post)++ t=c at *;by_cases hp:post=[]
 ·subst hp;have e8':n - (pre.length+1)=0:=by simpa using e8
  have e9':pre.length=n - 1:=by simpa using e9
  have e12:n - pre.length=1:=by omega
  have hle:pre.length*5+5<=c.length:=by omega
  refine⟨List.replicate 5 .undef ++ c.drop (pre.length*5+5),by simp,?_⟩;simp[-getElem?_pos,f195C,e1,e2,e3,e4,e5,e6,e7,e8',e12,e13,hb,hb57,hq2,hle,hne,htk,appM,Wh]
 ·have hz: ¬post.length=0:=fun e=>hp (YX e);have hle: (pre.length+1)*5+post.length*5<=c.length:=by omega
  have hle2: (pre.length+post.length)*5<=c.length:=by omega
  have hle3:pre.length*5<=c.length:=by omega
  have htp: ((c.map AV.strip).drop ((pre.length+1)*5)).take (post.length*5)=QX post:=by
   rw[<- Lg,hdr,<- hp0,Uk];change List.take (QX post).length (List.map AV.strip (QX post)++ List.map AV.strip t)=QX post;rw[hst,PY]
  have e14: (pre.length:Int)+ (post.length:Int)<=(n:Int):=by omega
  have e15: (0:Int)<=(pre.length:Int)+ (post.length:Int):=by omega
  have e16:n - (pre.length+post.length)=1:=by omega
  have e17: ((pre.length:Int)+ (post.length:Int)).toNat=pre.length+post.length:=by omega
  have e18:pre.length+post.length<=n:=by omega
  have hgs: ∀x:Qh,(B.set id x)[id]? =some x:=fun x=>by simp[hlt]
  obtain⟨c1,hc1⟩: ∃c1,YI Zx pre ++ (QX post ++ c.drop (pre.length*5+post.length*5))=c1:=⟨_,rfl⟩;have hc1':c1=QX (pre ++ post)++ c.drop ((pre.length+post.length)*5):=by rw[<- hc1,show QX (pre ++ post)=QX pre ++ QX post from Vx _ _ _,Z2];simp
  have hr1: (QX (pre ++ post)).length=(pre.length+post.length)*5:=by rw[XK];simp
  have hl1:c1.length=c.length:=by rw[hc1',Zk,hr1,UW];omega
  have htk1:c1.take ((pre.length+post.length)*5)=QX (pre ++ post):=by rw[hc1',<- hr1,PY]
  have hle4: (pre.length+post.length)*5+5<=c1.length:=by omega
  rw[<- hl1]at hq2;refine⟨List.replicate 5 .undef ++ c1.drop ((pre.length+post.length)*5+5),by simp,?_⟩;rw[hl1]at hq2;have hq3: (n:Int)<=(c1.length:Int) / 5:=by rw[hl1];exact hq2
  simp[-getElem?_pos,f195C,e1,e2,e3,e4,e5,e6,e7,e8,e14,e15,e16,e17,e18,hp,hb,hb57,hb58,hq2,hq3,hle,hle2,hle3,hle4,hne,htk,htk1,htp,hp0,hgs,hc1,appM,Wh]
def Y7:Qj->Tm->Int->Qj
 | [],t,n=>[(t,n)]
 | p:: r,t,n=>if Qq p.1 t < 0 then p:: Y7 r t n else if Qq p.1 t=0 then(if p.2+n=0 then r else(p.1,p.2+n):: r)else(t,n):: p:: r
def E8: ∀(pre post:Qj) (t:Tm) (n:Int),(∀p∈pre,Qq p.1 t < 0)->Y7 (pre ++ post) t n=pre ++ Y7 post t n
 | [],_,_,_,_=>rfl
 | p:: pre,post,t,n,h=>by
  simp only[WC,Y7];rw[Qn (h p (by simp)),E8 pre post t n fun q hq=>h q (by simp[hq])]
def PS (B0 B:Qa) (v:AV) (l:Qj):Prop:=∃(M:Qa) (id sz:Nat),B=B0 ++ M/\v= .gs id 0 sz l.length/\
 ((sz=0/\id=0/\l=[])\/(sz=5/\B0.length<=id/\∃t,B[id]? =some (QX l ++ t)/\QX l ++ t≠[]))
def QfO (B0:Qa) (l:Qj) (r:Out):Prop:=∃v B,r=some (v,B)/\PS B0 B v l
def QeR (B0:Qa):PS B0 B0 (.gs 0 0 0 0) []:=⟨[],0,0,by simp,rfl,.inl ⟨rfl,rfl,rfl⟩⟩
def X7 {B0 M:Qa} {id:Nat} (h:B0.length<=id) (x:Qh): (B0 ++ M).set id x=B0 ++ M.set (id - B0.length) x:=by rw[SK,Qm (by omega)]
def Zv:=@List.getElem?_cons_succ
def PU:=@List.take_append
def B5 {B0 B:Qa} {v:AV} {l:Qj} {p:Pw} (h:PS B0 B v l) (hl:l.length < 50000000) (hm: ∀q∈l,q.1.mass < big/\ -100000000 < q.2/\q.2 < 100000000) (hp:p.1.mass < big) (hpn: -100000000 < p.2/\p.2 < 100000000) (ha:Asc (Zn l)):
  QfO B0 (Y7 l p.1 p.2) (call tb 189 [v,.agg (Zx p)] B):=by
 obtain⟨M,id,sz,rfl,rfl,hcase⟩:=h;have hb: ∃c,l≠[]->sz=5/\(B0 ++ M)[id]? =some (QX l ++ c):=by
  rcases hcase with⟨_,_,rfl⟩ | ⟨h1,_,t,h2,_⟩
  ·exact⟨[],fun h=>absurd rfl h⟩
  ·exact⟨t,fun _=>⟨h1,h2⟩⟩
 obtain⟨c,hb⟩:=hb;obtain⟨k,⟨hk1,hk2,hk3⟩,hc⟩:=QiF (t:=p.1) (by omega) hb (fun q hq=>(hm q hq).1) hp ha;have hcl:=RB p.1 (B0 ++ M) hp;have hsplit:l=l.take k ++ l.drop k:=(M3 _ _).symm;have hkl: (l.take k).length=k:=by rw[Xr];omega
 have hpre: ∀q∈l.take k,Qq q.1 p.1 < 0:=by
  intro q hq;obtain⟨i,hi,rfl⟩:=List.getElem_of_mem hq;rw[hkl]at hi;exact hk2 i _ (by rw[List.getElem_take];exact Zq (by omega)) hi
 have hadd:Y7 l p.1 p.2=l.take k ++ Y7 (l.drop k) p.1 p.2:=by
  conv=>lhs;rw[hsplit]
  exact E8 _ _ _ _ hpre
 rw[zcc 189 rfl rfl];by_cases hh:hit l p.1 k=true
 ·rw[hh]at hc;obtain⟨q,hq,hq0⟩: ∃q,l[k]? =some q/\Qq q.1 p.1=0:=by
   unfold hit at hh;split at hh
   ·rename_i q hq;exact⟨q,hq,by simpa using hh⟩
   ·cases hh
  have hkl2:k < l.length:=by
   rcases QT k l.length with h | h
   ·exact h
   ·rw[Q2 h]at hq;cases hq
  have hne0:l≠[]:=by intro e;subst e;simp at hkl2
  have hqe:q.1=p.1:=Xg _ _ hq0;have hdk:l.drop k=q:: l.drop (k+1):=by
   rw[Jv hkl2];rw[Zq hkl2]at hq;injection hq with hq;rw[hq]
  have hlq:l=l.take k ++ q:: l.drop (k+1):=by rw[<- hdk];exact hsplit
  have hadd2:Y7 (l.drop k) p.1 p.2=if q.2+p.2=0 then l.drop (k+1)else(q.1,q.2+p.2):: l.drop (k+1):=by
   rw[hdk];simp[Y7,hq0]
  rw[hadd,hadd2];rcases hcase with⟨_,_,rfl⟩ | ⟨rfl,hid,t,hbx,hne⟩
  ·exact absurd rfl hne0
  have hlt:=YT hbx;have hqm:=(hm q (XN hq)).2;have hw:IntKind.i64.wrap (q.2+p.2)=q.2+p.2:=Zf (by omega) (by omega);have hrd:=NH hq t;have hlen: (QX l ++ t).length=l.length*5+t.length:=by rw[Zk,XK]
  have hcell: (QX l ++ t)[k*5+4]? =some (.int .i64 q.2):=by
   have h1: (((QX l ++ t).drop (k*5)).take 5)[4]? =some (.int .i64 q.2):=by rw[hrd];simp
   rw[WO (by omega),XX]at h1;exact h1
  have hle:k*5+4+1<=(QX l ++ t).length:=by omega
  have hnew: (QX l ++ t).take (k*5+4)++ (AV.int .i64 (q.2+p.2):: (QX l ++ t).drop (k*5+4+1))=QX (l.take k ++ (q.1,q.2+p.2):: l.drop (k+1))++ t:=by
   have h1:=PC (f:=Zx) (k:=5) Vh (q.1,q.2+p.2) hlq t;rw[hkl]at h1;rw[show QX (l.take k ++ (q.1,q.2+p.2):: l.drop (k+1))++ t=_ from h1.symm];have h2: (QX l ++ t).take (k*5+4)=(QX l ++ t).take (k*5)++ Qf q.1:=by
    rw[List.take_add];congr 1;have: ((QX l ++ t).drop (k*5)).take 4=(((QX l ++ t).drop (k*5)).take 5).take 4:=by rw[JR];rfl
    rw[this];rw[hrd];simp
   rw[h2];simp[Zx]
  have hlt3: (k:Int) < (l.length:Int):=by omega
  have hgs: ∀x:Qh,((B0 ++ M).set id x)[id]? =some x:=fun x=>by
   have:id < (B0 ++ M).length:=hlt;rw[Xq,Qn rfl,Qn this]
  have hcell2: (QX (l.take k ++ (q.1,q.2+p.2):: l.drop (k+1))++ t)[k*5+4]? =some (.int .i64 (q.2+p.2)):=by
   have h0: (l.take k ++ (q.1,q.2+p.2):: l.drop (k+1))[k]? =some (q.1,q.2+p.2):=by
    rw[YQ (by omega),hkl,Nat.sub_self];rfl
   have h1: (((QX (l.take k ++ (q.1,q.2+p.2):: l.drop (k+1))++ t).drop (k*5)).take 5)[4]? =some (.int .i64 (q.2+p.2)):=by rw[NH h0 t];simp
   rw[WO (by omega),XX]at h1;exact h1
  have hln: (l.take k ++ (q.1,q.2+p.2):: l.drop (k+1)).length=l.length:=by simp;omega
  have hle2:k*5+4+1<=(QX (l.take k ++ (q.1,q.2+p.2):: l.drop (k+1))++ t).length:=by rw[Zk,XK,hln];omega
  have hw2:IntKind.i64.wrap ((k:Int)+1)=(k:Int)+1:=Zf (by omega) (by omega);have hdel:=fun(x:Pw) (B:Qa) (hB:B[id]? =some (QX (l.take k ++ x:: l.drop (k+1))++ t))=>QiG (n:=l.length) (by simp;omega) (by omega) hB;rw[hkl]at hdel;generalize hc1:QX (l.take k ++ (q.1,q.2+p.2):: l.drop (k+1))++ t=c1 at *;generalize hc0:QX l ++ t=c0 at *;by_cases hz:q.2+p.2=0
  ·obtain⟨t3,ht3,hd3⟩:=hdel (q.1,q.2+p.2) ((B0 ++ M).set id c1) (by rw[hc1];exact hgs c1);rw[Qn hz];rw[TX]at hd3;refine⟨.gs id 0 5 (l.take k ++ l.drop (k+1)).length,(B0 ++ M).set id (QX (l.take k ++ l.drop (k+1))++ t3),?_,M.set (id - B0.length) (QX (l.take k ++ l.drop (k+1))++ t3),id,5,X7 hid _,rfl,.inr ⟨rfl,hid,t3,hgs _,by simp[ht3]⟩⟩;have hwz:IntKind.i64.wrap (q.2+p.2)=0:=by rw[hw,hz]
   rw[hz]at hnew hcell2;simp[-getElem?_pos,Zb,Zv,f189C,hc,hlt3,hbx,hcell,hle,hwz,hw2,hnew,hgs,hcell2,hle2,hd3]
  ·rw[Qm hz];refine⟨.gs id 0 5 l.length,(B0 ++ M).set id c1,?_,M.set (id - B0.length) c1,id,5,X7 hid _,by rw[hln],.inr ⟨rfl,hid,t,by rw[hc1];exact hgs _,by rw[hc1];intro e;rw[e]at hle2;simp at hle2⟩⟩;simp[-getElem?_pos,Zb,Zv,f189C,hc,hlt3,hbx,hcell,hle,hw,hw2,hnew,hgs,hcell2,hle2,hz]
 ·have hh':hit l p.1 k=false:=by simpa using hh
  have hadd2:Y7 (l.drop k) p.1 p.2=p:: l.drop k:=by
   cases hd:l.drop k with
   | nil=>rfl
   | cons q r=>
    have hq:l[k]? =some q:=by rw[<- List.head?_drop,hd];rfl
    have h1:=hk3 k q hq (Zm _);have h2: ¬Qq q.1 p.1=0:=by simpa[hit,hq]using hh'
    simp[Y7,h1,h2]
  rw[hadd,hadd2];have hins: ∃t2 M2 id2,call tb 194 [.gs id 0 sz l.length,.int .i64 k,.sl false 5 [Zx p]] (B0 ++ M)=some (.gs id2 0 5 (l.length+1),B0 ++ M2)/\B0.length<=id2/\(B0 ++ M2)[id2]? =some (QX (l.take k ++ p:: l.drop k)++ t2):=by
   rw[Ws tb_194];have q1: (0:Int)<=(k:Int):=by omega
   have q2: (k:Int)<=(l.length:Int):=by omega
   have q3: (l.length+1)*64<=140737488355328:=by omega
   have q4:l.length+1<=140737488355328:=by omega
   rcases hcase with⟨rfl,rfl,rfl⟩ | ⟨rfl,hid,t,hbx,hne⟩
   ·have hk0:k=0:=by simpa using hk1
    subst hk0;refine⟨[],M ++ [Zx p],(B0 ++ M).length,?_,by simp,?_⟩
    ·simp[O3,SX,Mb]
    ·rw[<- ZY,Ye];simp[QX,YI]
   ·have hlt:=YT hbx;have hr0:=XK l;have hle:l.length*5<=(QX l ++ t).length:=by rw[Zk,hr0];omega
    have hcs:SX k 5 l.length (QX l ++ t) [Zx p]=QX (l.take k ++ p:: l.drop k):=by
     have h1: (QX l ++ t).take (l.length*5)=QX l:=by rw[<- hr0,PY]
     have h2:=Rv (f:=Zx) (k:=5) Vh (l:=l) (pre:=l.take k) (post:=l.drop k) hsplit [];have h3:=Mr (f:=Zx) (k:=5) Vh (l:=l) (pre:=l.take k) (post:=l.drop k) hsplit [];rw[hkl,QH]at h2 h3;rw[QH]at h3;unfold SX;rw[h1,h2,h3,show QX (l.take k ++ p:: l.drop k)=QX (l.take k)++ (Zx p ++ QX (l.drop k)) by simp[QX,Vx,Tw]];rw[Uk,Uk,YV V4,YV V4];simp
    have hgp:QY (QX (l.take k ++ p:: l.drop k))=true:=CD QjW _;refine⟨[],M.set (id - B0.length) []++ [QX (l.take k ++ p:: l.drop k)],(B0 ++ M).length,?_,by simp,?_⟩
    ·simp only[O3];rw[Qn ⟨trivial,by omega,by simp,q1,q2,by simpa using q3,by simpa using q4⟩,Qm (by omega),Qn ⟨trivial,trivial⟩,hbx];simp only[QC];rw[Qn ⟨hne,hle⟩,PO,hcs,X7 hid];simp[Mb,hgp]
    ·rw[<- ZY,QH];have: (B0 ++ M).length=(B0 ++ M.set (id - B0.length) []).length:=by simp
     rw[this,Ye]
  obtain⟨t2,M2,id2,hc2,h2a,h2b⟩:=hins;refine⟨.gs id2 0 5 (l.length+1),B0 ++ M2,?_,M2,id2,5,rfl,?_,.inr ⟨rfl,h2a,t2,h2b,?_⟩⟩
  ·rw[hh']at hc;have hfold: [AV.int .i64 p.1.kind,.str p.1.name,.int .i64 p.1.sort,.sl false 4 (Qb p.1.kids),.int .i64 p.2]=Zx p:=(Az p).symm;have hf:Qf p.1 ++ [.int .i64 p.2]=Zx p:=rfl;simp[f189C,hc,hcl,PU,Nq,hf,Qa7,hc2]
  ·congr 1;simp;omega
  ·intro e;have:=WF List.length e;rw[Zk,XK]at this;simp at this
def MUL:Qu:=[109,117,108]
def INV:Qu:=[105,110,118]
def ONE:Qu:=[111,110,101]
def XB (t:Tm):Bool:=decide (t.kind=3) && (t.name == MUL || t.name == INV || t.name == ONE)
def CV {t:Tm} (h:XB t=true):t.kind=3/\(t.name=MUL\/t.name=INV\/t.name=ONE):=by
 simp only[XB,Qp,VG,Qy,Up]at h;obtain⟨h1,(h2 | h2) | h2⟩:=h
 ·exact⟨h1,.inl h2⟩
 ·exact⟨h1,.inr (.inl h2)⟩
 ·exact⟨h1,.inr (.inr h2)⟩
def Lt (t:Tm) (bs:Qa):call tb 188 [.agg (Qf t)] bs=some (.bool (XB t),bs):=by
 rw[zcc 188 rfl rfl];by_cases hk:t.kind=3
 ·cases h1:t.name == MUL
  ·cases h2:t.name == INV
   ·cases h3:t.name == ONE <;> simp only[MUL,INV,ONE]at h1 h2 h3 <;> simp[f188C,XB,hk,h1,h2,h3,MUL,INV,ONE]
   ·simp only[MUL,INV,ONE]at h1 h2;simp[f188C,XB,hk,h1,h2,MUL,INV,ONE]
  ·simp only[MUL,INV,ONE]at h1;simp[f188C,XB,hk,h1,MUL,INV,ONE]
 ·simp[f188C,XB,hk]
def P8 (t:Tm) (bs:Qa):call tb 255 [.agg (Qf t)] bs=some (.bool (XB t),bs):=by
 rw[zcc 255 rfl rfl];by_cases hk:t.kind=3
 ·cases h1:t.name == MUL
  ·cases h2:t.name == INV
   ·cases h3:t.name == ONE <;> simp only[MUL,INV,ONE]at h1 h2 h3 <;> simp[f255C,XB,hk,h1,h2,h3,MUL,INV,ONE]
   ·simp only[MUL,INV,ONE]at h1 h2;simp[f255C,XB,hk,h1,h2,MUL,INV,ONE]
  ·simp only[MUL,INV,ONE]at h1;simp[f255C,XB,hk,h1,MUL,INV,ONE]
 ·simp[f255C,XB,hk]
def W4 (t:Tm):Bool:= !((t.name == MUL && decide (t.kids.length < 2)) || (t.name == INV && !decide (t.kids.length=1)) || (t.name == ONE && !decide (t.kids.length=0)))
mutual
def arB:Tm->Bool
 | .mk k n s ks=> !XB (.mk k n s ks) || (W4 (.mk k n s ks) && arL ks)
def arL:List Tm->Bool
 | []=>true
 | t:: ts=>arB t && arL ts
end
def QdW (t:Tm):arB t=(!XB t || (W4 t && arL t.kids)):=by cases t;simp[arB]
mutual
def WJ:List Pw->Tm->Int->List Pw
 | l,.mk k n s ks,m=>if XB (.mk k n s ks)then X3 l ks (if n == INV then -m else m)else Y7 l (.mk k n s ks) m
def X3:List Pw->List Tm->Int->List Pw
 | l,[],_=>l
 | l,t:: ts,m=>X3 (WJ l t m) ts m
end
def Uq (l:Qj) (t:Tm) (m:Int):WJ l t m=if XB t then X3 l t.kids (if t.name == INV then -m else m)else Y7 l t m:=by cases t;simp[WJ]
def QaI (t:Tm) (bs:Qa) (hm:t.mass < big) (ih: ∀x∈t.kids,∀bs,call tb 254 [.agg (Qf x)] bs=some (.bool (arB x),bs)):
  ∀(post pre:Qc) (ρ:Ql),t.kids=pre ++ post->ρ 1= .bx (Qf t)->ρ 3= .int .i64 t.kids.length->ρ 4= .int .i64 pre.length->
  R tb (.loop f254l0) ρ bs (Qo 0 (QB tb f254r0 (QN f254 bs)))=some (.bool (arL post),bs):=by
 have hm2:=QK t;unfold big at hm;intro post
 induction post with
 | nil=>
  intro pre ρ hk h1 h3 h4;simp only[QH]at hk;rw[<- hk]at h4;rw[Qe f254l0.eq_1];simp[h1,h3,h4,f254r0,arL]
 | cons x post IH=>
  intro pre ρ hk h1 h3 h4;have hg:=Qw hk;have hl:=QE hk;have hw1:=wr1 pre.length (by omega);have hlt:=QI hk;have hc:=ih x (by rw[hk];simp) bs;rw[Qe f254l0.eq_1];cases hb:arB x
  ·simp[h1,h3,h4,hg,hw1,hlt,hc,hb,arL]
  ·have h2:=fun ρ=>IH (pre ++ [x]) ρ (by rw[hk];simp);simp[h1,h3,h4,hg,hw1,hlt,hc,hb,arL];refine h2 _ ?_ ?_ ?_ <;> simp[h1,h3]
def QaS: ∀(t:Tm) (bs:Qa),t.mass < big->call tb 254 [.agg (Qf t)] bs=some (.bool (arB t),bs):=by
 refine Yq ?_;intro k n s ks ih bs hm;have hl:=fun ρ=>QaI (.mk k n s ks) bs hm (fun x hx bs=>ih x hx bs (by have:=Q3 hx;have:=QK (.mk k n s ks);simp at *;omega)) ks [] ρ rfl;have hsp:=P8 (.mk k n s ks) bs;rw[zcc 254 rfl rfl,QdW];cases hs:XB (.mk k n s ks)
 ·simp[f254C,hsp,hs]
 ·have hbe: ((Qf (.mk k n s ks)).map AV.strip)=Qf (.mk k n s ks):=ZI _;obtain⟨rfl,hn⟩:=CV hs;simp only[Ya]at hn;simp only[Zz]at hl;rcases hn with rfl | rfl | rfl
  ·by_cases d:ks.length < 2
   ·have d': (ks.length:Int) < 2:=by omega
    have hc:W4 (.mk 3 MUL s ks)=false:=by simp[W4,d]
    simp only[hc];simp[MUL]at hsp hs hc;simp[f254C,hsp,hs,MUL,d']
   ·have d': ¬(ks.length:Int) < 2:=by omega
    have hc:W4 (.mk 3 MUL s ks)=true:=by simp[W4,d];simp[MUL,INV,ONE]
    simp only[hc];simp[MUL]at hsp hs hc hl;simp[f254C,hsp,hs,MUL,d'];refine hl _ ?_ ?_ ?_ <;> simp
  ·by_cases d:ks.length=1
   ·have d': (ks.length:Int)=1:=by omega
    have hc:W4 (.mk 3 INV s ks)=true:=by simp[W4,d];simp[MUL,INV,ONE]
    simp only[hc];simp[INV]at hsp hs hc hl;simp[f254C,hsp,hs,INV,d'];refine hl _ ?_ ?_ ?_ <;> simp[d]
   ·have d': ¬(ks.length:Int)=1:=by omega
    have hc:W4 (.mk 3 INV s ks)=false:=by simp[W4,d]
    simp only[hc];simp[INV]at hsp hs hc;simp[f254C,hsp,hs,INV,d']
  ·by_cases d:ks=[]
   ·subst d;have hc:W4 (.mk 3 ONE s [])=true:=by simp[W4];simp[MUL,INV,ONE]
    simp only[hc];simp[ONE]at hsp hs hc hl;simp[f254C,hsp,hs,ONE];refine hl _ ?_ ?_ ?_ <;> simp
   ·have d0: ¬ks.length=0:=fun e=>d (YX e);have d': ¬(ks.length:Int)=0:=by omega
    have hc:W4 (.mk 3 ONE s ks)=false:=by simp[W4,d]
    simp only[hc];simp[ONE]at hsp hs hc;simp[f254C,hsp,hs,ONE,d,d']
def Mg {n:Nat} (h:n < 100000000):n*64<=140737488355328:=by omega
def KP (l:Qj) (t:Tm) (m:Int) (bs:Qa) (hl:l.length < 100000000) (hm: ∀q∈l,q.1.mass < big) (ht:t.mass < big):
  ∀(post pre acc:Qj) (o:Bool) (ρ:Ql),l=pre ++ post->acc.length+post.length < 100000000->(∀q∈post,q.2≠0/\Qq t q.1≠0)->ρ 0= .sl o 5 (QF l)->ρ 2= .int .i64 m->ρ 4= .bx (Qf t)->ρ 7= .sl true 5 (QF acc)->ρ 8= .bool true->ρ 9= .int .i64 pre.length->
  R tb (.loop f257l0) ρ bs (Qo 0 (QB tb f257r0 (QN f257 bs)))=some (.sl false 5 (QF (acc ++ post)),bs):=by
 intro post
 induction post with
 | nil=>
  intro pre acc o ρ hk ha hp h0 h2 h4 h7 h8 h9;simp only[QH]at hk;rw[<- hk]at h9;rw[Qe f257l0.eq_1];simp[h0,h2,h4,h7,h8,h9,f257r0]
 | cons q post IH=>
  intro pre acc o ρ hk ha hp h0 h2 h4 h7 h8 h9;have hg:=Qw hk;have hll:=QE hk;have hw1:=wr1 pre.length (by omega);have hlt:=QI hk;have hc:=UY t q.1 bs ht (hm q (by rw[hk];simp));obtain⟨hq1,hq2⟩:=hp q (by simp);have hb: (acc.length+1)*64<=140737488355328:=Mg (by simp at ha;omega);have h3:=fun ρ=>IH (pre ++ [q]) (acc ++ [q]) o ρ (by rw[hk];simp) (by simp at ha ⊢;omega) (fun x hx=>hp x (by simp[hx]));simp only[ZY,WC,XP]at h3;rw[Qe f257l0.eq_1];simp[h0,h2,h4,h7,h8,h9,hg,hlt,hw1,hc,hq1,hq2,hb,Sl,Sk];refine h3 _ ?_ ?_ ?_ ?_ ?_ ?_ <;> simp[h0,h2,h4,h8]
def NZ (l:Qj):Prop:=∀q∈l,q.2≠0
def JE:=@List.mem_map_of_mem
def QfW (l:Qj) (t:Tm) (m:Int) (bs:Qa) (hl:l.length < 50000000) (hm: ∀q∈l,q.1.mass < big/\ -100000000 < q.2/\q.2 < 100000000) (hmm: -100000000 < m/\m < 100000000) (ht:t.mass < big) (ha:Asc (Zn l)) (hz:NZ l):
  ∀(post pre acc:Qj) (o:Bool) (ρ:Ql),l=pre ++ post->acc.length+post.length < 50000000->ρ 0= .sl o 5 (QF l)->ρ 2= .int .i64 m->ρ 4= .bx (Qf t)->ρ 7= .sl true 5 (QF acc)->ρ 8= .bool false->ρ 9= .int .i64 pre.length->
  R tb (.loop f257l0) ρ bs (Qo 0 (QB tb f257r0 (QN f257 bs)))=some (.sl false 5 (QF (acc ++ Y7 post t m)),bs):=by
 intro post
 induction post with
 | nil=>
  intro pre acc o ρ hk hac h0 h2 h4 h7 h8 h9;simp only[QH]at hk;rw[<- hk]at h9;have hb: (acc.length+1)*64<=140737488355328:=Mg (by simp at hac;omega);have hf:Qf t ++ [.int .i64 m]=Zx (t,m):=rfl;rw[Qe f257l0.eq_1];simp[h0,h2,h4,h7,h8,h9,f257r0,Y7,hb,PU,Nq,hf,Sl,Sk]
 | cons q post IH=>
  intro pre acc o ρ hk hac h0 h2 h4 h7 h8 h9;have hg:=Qw hk;have hll:=QE hk;have hw1:=wr1 pre.length (by omega);have hlt:=QI hk;have hql:q∈l:=by rw[hk];simp
  have hqm:=hm q hql;have hq0:=hz q hql;have hc:=UY t q.1 bs ht hqm.1;have hb: (acc.length+1)*64<=140737488355328:=Mg (by simp at hac;omega);have hb2: (acc.length+1+1)*64<=140737488355328:=Mg (by clear hb;simp at hac;omega);have hap: ∀x∈post,Qq q.1 x.1 < 0:=by
   intro x hx;have h1:=ha;rw[hk,Zn,Uk,Ym]at h1;have h2:=(List.pairwise_append.1 h1).2.1;exact(VY.1 h2).1 x.1 (JE hx)
  have hpz: ∀x∈post,x.2≠0:=fun x hx=>hz x (by rw[hk];simp[hx]);have hf:Qf t ++ [.int .i64 m]=Zx (t,m):=rfl;have hanti:=Xn t q.1;rw[Qe f257l0.eq_1];by_cases c1:Qq q.1 t < 0
  ·have e1: ¬Qq t q.1 < 0:=by clear hb hb2;omega
   have e2: ¬Qq t q.1=0:=by clear hb hb2;omega
   have h3:=fun ρ=>IH (pre ++ [q]) (acc ++ [q]) o ρ (by rw[hk];simp) (by clear hb hb2;simp at hac ⊢;omega);simp only[ZY,WC,XP]at h3;simp only[Y7,c1,Zj];simp[h0,h2,h4,h7,h8,h9,hg,hlt,hw1,hc,hq0,e1,e2,hb,Sl,Sk];refine h3 _ ?_ ?_ ?_ ?_ ?_ ?_ <;> simp[h0,h2,h4,h8]
  ·by_cases c2:Qq q.1 t=0
   ·have e1: ¬Qq t q.1 < 0:=by clear hb hb2;omega
    have e2:Qq t q.1=0:=by clear hb hb2;omega
    have hqt:=Xg _ _ c2;have hw2:IntKind.i64.wrap (q.2+m)=q.2+m:=Zf (by clear hb hb2;omega) (by clear hb hb2;omega);have hpo: ∀x∈post,x.2≠0/\Qq t x.1≠0:=fun x hx=>⟨hpz x hx,by have:=hap x hx;rw[hqt]at this;clear hb hb2;omega⟩;have hf2: (Zx q).take 4 ++ [.int .i64 (q.2+m)]=Zx (q.1,q.2+m):=by simp[Zx]
    by_cases c3:q.2+m=0
    ·have h3:=fun ρ=>KP l t m bs (by clear hb hb2;omega) (fun q hq=>(hm q hq).1) ht post (pre ++ [q]) acc o ρ (by rw[hk];simp) (by clear hb hb2;simp at hac;omega) hpo;simp only[Y7,c1,c2,c3,Zj,Zi];have hf3: (Zx q).take 4 ++ [.int .i64 0]=Zx (q.1,0):=by simp[Zx]
     simp[h0,h2,h4,h7,h8,h9,hg,hlt,hw1,hw2,hc,e2,c3,Sl,Sk];refine h3 _ ?_ ?_ ?_ ?_ ?_ ?_ <;> simp[h0,h2,h4,h7]
    ·have h3:=fun ρ=>KP l t m bs (by clear hb hb2;omega) (fun q hq=>(hm q hq).1) ht post (pre ++ [q]) (acc ++ [(q.1,q.2+m)]) o ρ (by rw[hk];simp) (by clear hb hb2;simp at hac ⊢;omega) hpo;simp only[ZY,WC,XP]at h3;simp only[Y7,c1,c2,c3,Zj,Zi];have hf3:Qf q.1 ++ [.int .i64 (q.2+m)]=Zx (q.1,q.2+m):=rfl;simp[h0,h2,h4,h7,h8,h9,hg,hlt,hw1,hw2,hc,e2,c3,hb,hf3,Sl,Sk];refine h3 _ ?_ ?_ ?_ ?_ ?_ ?_ <;> simp[h0,h2,h4]
   ·have e1:Qq t q.1 < 0:=by clear hb hb2;omega
    have e2: ¬Qq t q.1=0:=by clear hb hb2;omega
    have hpo: ∀x∈post,x.2≠0/\Qq t x.1≠0:=fun x hx=>⟨hpz x hx,by have:=Xy e1 (hap x hx);clear hb hb2;omega⟩;have h3:=fun ρ=>KP l t m bs (by clear hb hb2;omega) (fun q hq=>(hm q hq).1) ht post (pre ++ [q]) (acc ++ [(t,m),q]) o ρ (by rw[hk];simp) (by clear hb hb2;simp at hac ⊢;omega) hpo;simp only[ZY,WC,XP]at h3;simp only[Y7,c1,c2,Zi];simp[h0,h2,h4,h7,h8,h9,hg,hlt,hw1,hc,hq0,e1,e2,hb,hb2,PU,Nq,hf,Sl,Sk];refine h3 _ ?_ ?_ ?_ ?_ ?_ ?_ <;> simp[h0,h2,h4]
def E7: ∀(l:Qj) (t:Tm) (n:Int),(Y7 l t n).length<=l.length+1
 | [],_,_=>by simp[Y7]
 | p:: l,t,n=>by
  have:=E7 l t n;simp only[Y7];split
  ·simp;omega
  ·split
   ·split <;> simp <;> omega
   ·simp
def T8: ∀{l:Qj} {t:Tm} {n:Int} {q:Pw},q∈Y7 l t n->q∈l\/q=(t,n)\/∃m,(t,m)∈l/\q=(t,m+n)/\m+n≠0
 | [],t,n,q,h=>by simp[Y7]at h;exact .inr (.inl h)
 | p:: l,t,n,q,h=>by
  simp only[Y7]at h;split at h
  ·rcases ZE.1 h with h | h
   ·exact .inl (by simp[h])
   ·rcases T8 h with h | h | ⟨m,h1,h2⟩
    ·exact .inl (by simp[h])
    ·exact .inr (.inl h)
    ·exact .inr (.inr ⟨m,by simp[h1],h2⟩)
  ·split at h
   ·rename_i hc;have he:=Xg _ _ hc;split at h
    ·exact .inl (by simp[h])
    ·rename_i hz;rcases ZE.1 h with h | h
     ·exact .inr (.inr ⟨p.2,by rw[<- he];simp,by rw[<- he];exact h,hz⟩)
     ·exact .inl (by simp[h])
   ·rcases ZE.1 h with h | h
    ·exact .inr (.inl h)
    ·exact .inl h
def Dc: ∀{l:Qj} {t:Tm} {n:Int},Asc (Zn l)->Asc (Zn (Y7 l t n))
 | [],t,n,_=>by simp[Y7,Zn,Asc]
 | p:: l,t,n,h=>by
  have h':=h;simp only[Zn,Ym]at h';obtain⟨h1,h2⟩:=X1.1 h';simp only[Y7];split
  ·rename_i c;simp only[Zn,Ym];refine X1.2 ⟨fun y hy=> ?_,Dc h2⟩;obtain⟨q,hq,rfl⟩:=Wf.1 hy;rcases T8 hq with hq | rfl | ⟨m,hm,rfl,_⟩
   ·exact h1 _ (JE hq)
   ·exact c
   ·exact c
  ·split
   ·split
    ·exact h2
    ·simp only[Zn,Ym];exact h'
   ·rename_i c1 c2;simp only[Zn,Ym];have c3:Qq t p.1 < 0:=by have:=Xn t p.1;omega
    refine X1.2 ⟨fun y hy=> ?_,h'⟩;rcases ZE.1 hy with rfl | hy
    ·exact c3
    ·exact Xy c3 (h1 y hy)
structure VM (l:List Pw) (b:Nat):Prop where
 asc:Asc (Zn l)
 nz:NZ l
 len:l.length<=b
 bd: ∀q∈l,q.1.mass < big/\ -(b:Int)<=q.2/\q.2<=b
def Jf:VM [] 0:=⟨Asc.nil,fun q h=>by simp at h,by simp,fun q h=>by simp at h⟩
def VM.mono {l:Qj} {b c:Nat} (h:VM l b) (hbc:b<=c):VM l c:=⟨h.asc,h.nz,VU h.len hbc,fun q hq=>by obtain⟨h1,h2,h3⟩:=h.bd q hq;exact⟨h1,by omega,by omega⟩⟩
def VM.add {l:Qj} {b c:Nat} {t:Tm} {n:Int} (h:VM l b) (ht:t.mass < big) (hn:n≠0) (h1: -(c:Int)<=n) (h2:n<=c):VM (Y7 l t n) (b+c):=by
 refine⟨Dc h.asc,?_,?_,?_⟩
 ·intro q hq;rcases T8 hq with hq | rfl | ⟨m,hm,rfl,hz⟩
  ·exact h.nz q hq
  ·exact hn
  ·exact hz
 ·have:=E7 l t n;have:=h.len;omega
 ·intro q hq;rcases T8 hq with hq | rfl | ⟨m,hm,rfl,hz⟩
  ·obtain⟨a1,a2,a3⟩:=h.bd q hq;exact⟨a1,by omega,by omega⟩
  ·exact⟨ht,by simp;omega,by simp;omega⟩
  ·obtain⟨a1,a2,a3⟩:=h.bd _ hm;simp at a2 a3;exact⟨ht,by simp;omega,by simp;omega⟩
def uno (m:Int):Prop:=m=1\/m= -1
def uno.neg {m:Int} (h:uno m):uno (-m):=by rcases h with rfl | rfl <;> simp[uno]
def uno.ite {m:Int} (h:uno m) (c:Bool):uno (if c then -m else m):=by cases c <;> simp[h,h.neg]
def LX: ∀(t:Tm) (l:Qj) (m:Int) (b:Nat),t.mass < big->uno m->VM l b->VM (WJ l t m) (b+t.nodes):=by
 refine Yq ?_;intro k n s ks ih l m b hm hu h;have hne:=X5 (.mk k n s ks);have hme:=QK (.mk k n s ks);simp only[Zz,Ya]at hne hme;have hL: ∀(xs:Qc) (l:Qj) (m:Int) (b:Nat),(∀x∈xs,x∈ks)->uno m->VM l b->VM (X3 l xs m) (b+Qx xs):=by
  intro xs
  induction xs with
  | nil=>intro l m b _ _ h;simpa[X3,Qx]using h
  | cons x xs IH=>
   intro l m b hx hu h;have h1:=ih x (hx x (by simp)) l m b (by have:=Q3 (hx x (by simp));omega) hu h;have h2:=IH _ m _ (fun y hy=>hx y (by simp[hy])) hu h1;simp only[X3,Qx];rw[<- Uo];exact h2
 rw[Uq];split
 ·have:=hL ks l _ b (fun x hx=>hx) (hu.ite ((Tm.mk k n s ks).name == INV)) h;exact this.mono (by omega)
 ·have:VM (Y7 l (.mk k n s ks) m) (b+1):=h.add (c:=1) hm (by rcases hu with rfl | rfl <;> simp) (by rcases hu with rfl | rfl <;> simp) (by rcases hu with rfl | rfl <;> simp);exact this.mono (by omega)
def B9 {l:Qj} {t:Tm} {m:Int} {b:Nat} (o:Bool) (bs:Qa) (h:VM l b) (hb:b < 40000000) (ht:t.mass < big) (hm: -100000000 < m/\m < 100000000):
  call tb 257 [.sl o 5 (QF l),.agg (Qf t),.int .i64 m] bs=some (.sl false 5 (QF (Y7 l t m)),bs):=by
 have hl:=h.len;have hp:=fun ρ=>QfW l t m bs (by omega) (fun q hq=>by obtain⟨a1,a2,a3⟩:=h.bd q hq;exact⟨a1,by omega,by omega⟩) hm ht h.asc h.nz l [] [] false ρ rfl (by simp;omega);rw[zcc 257 rfl rfl];simp only[XP]at hp;simp[f257C];refine hp _ ?_ ?_ ?_ ?_ ?_ ?_ <;> simp[QF]
def EF (l:Qj) (bs:Qa) (r:Out):Prop:=∃o,r=some (.sl o 5 (QF l),bs)
def QdK (t:Tm) (bs:Qa) (hm:t.mass < big) (m:Int) (hu:uno m) (ih: ∀x∈t.kids,∀l b o,VM l b->b+x.nodes < 40000000->EF (WJ l x m) bs (call tb 256 [.sl o 5 (QF l),.agg (Qf x),.int .i64 m] bs)):
  ∀(post pre:Qc) (l:Qj) (b:Nat) (o:Bool) (ρ:Ql),t.kids=pre ++ post->VM l b->b+Qx post < 40000000->ρ 0= .sl o 5 (QF l)->ρ 2= .int .i64 m->ρ 4= .bx (Qf t)->ρ 7= .int .i64 pre.length->
  EF (X3 l post m) bs (R tb (.loop f256l0) ρ bs (Qo 0 (QB tb f256r0 (QN f256 bs)))):=by
 have hm2:=QK t;have hmb:=hm;unfold big at hm;intro post
 induction post with
 | nil=>
  intro pre l b o ρ hk hl hb h0 h2 h4 h7;simp only[QH]at hk;rw[<- hk]at h7;rw[Qe f256l0.eq_1];refine⟨false,?_⟩;simp[h0,h2,h4,h7,f256r0,X3]
 | cons x post IH=>
  intro pre l b o ρ hk hl hb h0 h2 h4 h7;have hg:=Qw hk;have hll:=QE hk;have hw1:=wr1 pre.length (by omega);have hlt:=QI hk;have hxk:x∈t.kids:=by rw[hk];simp
  simp only[Qx]at hb;obtain⟨o1,hc⟩:=ih x hxk l b false hl (by omega);have h3:=fun ρ=>IH (pre ++ [x]) (WJ l x m) (b+x.nodes) o1 ρ (by rw[hk];simp) (LX x l m b (by have:=Q3 hxk;omega) hu hl) (by omega);rw[Qe f256l0.eq_1];simp[h0,h2,h4,h7,hg,hlt,hw1,hc,Qk,X3];refine h3 _ ?_ ?_ ?_ ?_ <;> simp[h2,h4]
def QiV: ∀(t:Tm) (bs:Qa) (m:Int) (l:Qj) (b:Nat) (o:Bool),t.mass < big->uno m->VM l b->b+t.nodes < 40000000->EF (WJ l t m) bs (call tb 256 [.sl o 5 (QF l),.agg (Qf t),.int .i64 m] bs):=by
 refine Yq ?_;intro k n s ks ih bs m l b o hm hu hl hb;have hme:=QK (.mk k n s ks);have hne:=X5 (.mk k n s ks);simp only[Zz,Ya]at hne hme;have hsp:=P8 (.mk k n s ks) bs;rw[zcc 256 rfl rfl,Uq];cases hs:XB (.mk k n s ks)
 ·have hc:=B9 (t:= .mk k n s ks) (m:=m) false bs hl (by omega) hm (by rcases hu with rfl | rfl <;> simp);refine⟨false,?_⟩;simp[f256C,hsp,hs,hc]
 ·have h2:=fun m hu ρ=>QdK (.mk k n s ks) bs hm m hu (fun x hx l b o hl hb=>ih x hx bs m l b o (by have:=Q3 hx;simp at this;omega) hu hl hb) ks [] l b false ρ rfl hl (by omega);cases hi:n == INV
  ·have h3:=h2 m hu;simp only[INV]at hi;simp[f256C,hsp,hs,hi,INV];refine h3 _ ?_ ?_ ?_ ?_ <;> simp
  ·have h3:=h2 (-m) hu.neg;have hw:IntKind.i64.wrap (-m)= -m:=by rcases hu with rfl | rfl <;> rfl
   simp only[INV]at hi;simp[f256C,hsp,hs,hi,hw,INV];refine h3 _ ?_ ?_ ?_ ?_ <;> simp
def Qak (B0:Qa) (l:Qj) (ok:Bool) (r:Out):Prop:=∃v B,r=some (.tup [v,.bool ok],B)/\PS B0 B v (if ok then l else [])
def UR {B0 B:Qa} {v:AV} {l:Qj} (h:PS B0 B v l): ∃id sz,v= .gs id 0 sz l.length:=by
 obtain⟨M,id,sz,_,rfl,_⟩:=h;exact⟨id,sz,rfl⟩
def Kk {B0 B:Qa} {v:AV} {l:Qj} (h:PS B0 B v l):PS B0 B (.gs 0 0 0 0) []:=by
 obtain⟨M,id,sz,rfl,_,_⟩:=h;exact⟨M,0,0,rfl,rfl,.inl ⟨rfl,rfl,rfl⟩⟩
def Qgk (t:Tm) (B0:Qa) (hm:t.mass < big) (m:Int) (hu:uno m) (ih: ∀x∈t.kids,∀B v l b,PS B0 B v l->VM l b->b+x.nodes < 40000000->Qak B0 (WJ l x m) (arB x) (call tb 187 [v,.agg (Qf x),.int .i64 m] B)) (K:Qa):
  ∀(post pre:Qc) (l:Qj) (b:Nat) (B:Qa) (v:AV) (ρ:Ql),t.kids=pre ++ post->PS B0 B v l->VM l b->b+Qx post < 40000000->ρ 0=v->ρ 2= .int .i64 m->ρ 52= .sl false 4 (Qb t.kids)->ρ 53= .int .i64 t.kids.length->ρ 54= .int .i64 pre.length->
  Qak B0 (X3 l post m) (arL post) (R tb (.loop f187l0) ρ B (Qo 1 (QB tb f187r0 (QN f187 K)))):=by
 have hm2:=QK t;have hmb:=hm;unfold big at hm;intro post
 induction post with
 | nil=>
  intro pre l b B v ρ hk hps hl hb h0 h2 h52 h53 h54;simp only[QH]at hk;rw[<- hk]at h54;obtain⟨id,sz,rfl⟩:=UR hps;rw[Qe f187l0.eq_1];refine⟨_,B,?_,by simpa[X3,arL]using hps⟩;simp[h0,h2,h52,h53,h54,f187r0,X3,arL]
 | cons x post IH=>
  intro pre l b B v ρ hk hps hl hb h0 h2 h52 h53 h54;have hg:=Qw hk;have hll:=QE hk;have hw1:=wr1 pre.length (by omega);have hlt:=QI hk;have hxk:x∈t.kids:=by rw[hk];simp
  simp only[Qx]at hb;obtain⟨v2,B2,hc,hps2⟩:=ih x hxk B v l b hps hl (by omega);obtain⟨id,sz,rfl⟩:=UR hps;obtain⟨id2,sz2,rfl⟩:=UR hps2;rw[Qe f187l0.eq_1];cases ha:arB x
  ·rw[ha]at hc hps2;refine⟨.gs 0 0 0 0,B2,?_,by simpa[arL,ha]using Kk hps2⟩;simp only[Yl,Zi]at hc;simp[h0,h2,h52,h53,h54,hg,hlt,hc,Qk,arL,ha]
  ·rw[ha]at hc hps2;simp only[Zj]at hc hps2;have h3:=fun ρ=>IH (pre ++ [x]) (WJ l x m) (b+x.nodes) B2 _ ρ (by rw[hk];simp) hps2 (LX x l m b (by have:=Q3 hxk;omega) hu hl) (by omega);have e1:X3 l (x:: post) m=X3 (WJ l x m) post m:=by simp[X3]
   have e2:arL (x:: post)=arL post:=by simp[arL,ha]
   rw[e1,e2];simp[h0,h2,h52,h53,h54,hg,hlt,hw1,hc,Qk];refine h3 _ ?_ ?_ ?_ ?_ ?_ <;> simp[h2,h52,h53]
def QiE: ∀(t:Tm) (B0 B:Qa) (v:AV) (l:Qj) (m:Int) (b:Nat),t.mass < big->uno m->PS B0 B v l->VM l b->b+t.nodes < 40000000->Qak B0 (WJ l t m) (arB t) (call tb 187 [v,.agg (Qf t),.int .i64 m] B):=by
 refine Yq ?_;intro k n s ks ih B0 B v l m b hm hu hps hl hb;have hme:=QK (.mk k n s ks);have hne:=X5 (.mk k n s ks);simp only[Zz,Ya]at hne hme;have hsp:=Lt (.mk k n s ks) B;obtain⟨id,sz,rfl⟩:=UR hps;rw[zcc 187 rfl rfl,Uq,QdW];cases hs:XB (.mk k n s ks)
 ·obtain⟨v2,B2,hc,hps2⟩:=B5 (p:=(.mk k n s ks,m)) hps (by have:=hl.len;omega) (fun q hq=>by obtain⟨a1,a2,a3⟩:=hl.bd q hq;exact⟨a1,by omega,by omega⟩) hm (by rcases hu with rfl | rfl <;> simp) hl.asc;obtain⟨id2,sz2,rfl⟩:=UR hps2;have hf:Qf (.mk k n s ks)++ [.int .i64 m]=Zx (.mk k n s ks,m):=rfl;refine⟨_,B2,?_,by simpa using hps2⟩;simp[f187C,hsp,hs,PU,Nq,hf,hc]
 ·have h2:=fun m hu ρ=>Qgk (.mk k n s ks) B0 hm m hu (fun x hx B v l b hps hl hb=>ih x hx B0 B v l m b (by have:=Q3 hx;simp at this;omega) hu hps hl hb) B ks [] l b B _ ρ rfl hps hl (by omega);obtain⟨rfl,hn⟩:=CV hs;simp only[Ya]at hn;simp only[Zz]at h2;simp only[Nt,Lf,Zj];rcases hn with rfl | rfl | rfl
  ·have h3:=h2 m hu;by_cases d:ks.length < 2
   ·have d': (ks.length:Int) < 2:=by omega
    have hc:W4 (.mk 3 MUL s ks)=false:=by simp[W4,d]
    refine⟨.gs 0 0 0 0,B,?_,by simpa[hc]using Kk hps⟩;simp only[hc];simp[MUL]at hsp hs hc;simp[f187C,hsp,hs,MUL,d']
   ·have d': ¬(ks.length:Int) < 2:=by omega
    have hc:W4 (.mk 3 MUL s ks)=true:=by simp[W4,d];simp[MUL,INV,ONE]
    have e: ((Tm.mk 3 MUL s ks).name == INV)=false:=by simp[MUL,INV]
    rw[e];simp only[hc,VZ,Zz,Yl,Zi];simp[MUL]at hsp hs;simp[f187C,hsp,hs,MUL,d'];refine h3 _ ?_ ?_ ?_ ?_ ?_ <;> simp
  ·have h3:=h2 (-m) hu.neg;have hw:IntKind.i64.wrap (-m)= -m:=by rcases hu with rfl | rfl <;> rfl
   by_cases d:ks.length=1
   ·have d': (ks.length:Int)=1:=by omega
    have hc:W4 (.mk 3 INV s ks)=true:=by simp[W4,d];simp[MUL,INV,ONE]
    have e: ((Tm.mk 3 INV s ks).name == INV)=true:=by simp
    rw[e];simp only[hc,VZ,Zz,Zj];simp[INV]at hsp hs;simp[f187C,hsp,hs,INV,d',hw];refine h3 _ ?_ ?_ ?_ ?_ ?_ <;> simp[d]
   ·have d': ¬(ks.length:Int)=1:=by omega
    have hc:W4 (.mk 3 INV s ks)=false:=by simp[W4,d]
    refine⟨.gs 0 0 0 0,B,?_,by simpa[hc]using Kk hps⟩;simp only[hc];simp[INV]at hsp hs hc;simp[f187C,hsp,hs,INV,d']
  ·have h3:=h2 m hu;by_cases d:ks=[]
   ·subst d;have hc:W4 (.mk 3 ONE s [])=true:=by simp[W4];simp[MUL,INV,ONE]
    have e: ((Tm.mk 3 ONE s []).name == INV)=false:=by simp[ONE,INV]
    rw[e];simp only[hc,VZ,Zz,Yl,Zi];simp[ONE]at hsp hs;simp[f187C,hsp,hs,ONE];refine h3 _ ?_ ?_ ?_ ?_ ?_ <;> simp
   ·have d0: ¬ks.length=0:=fun e=>d (YX e);have d': ¬(ks.length:Int)=0:=by omega
    have hc:W4 (.mk 3 ONE s ks)=false:=by simp[W4,d]
    refine⟨.gs 0 0 0 0,B,?_,by simpa[hc]using Kk hps⟩;simp only[hc];simp[ONE]at hsp hs hc;simp[f187C,hsp,hs,ONE,d,d']
def ofE (t:Tm):Int:=if Q4 t≠0 then Q4 t else if arB t then(if 200 < (WJ [] t 1).length then 3 else 0)else 6
def ofP (t:Tm):Qj:=if ofE t=0 then WJ [] t 1 else []
def Pr (t:Tm) (bs:Qa) (hm:t.mass < 30000000):call tb 253 [.agg (Qf t)] bs=some (.tup [.sl false 5 (QF (ofP t)),.int .i64 (ofE t)],bs):=by
 have hmb:t.mass < big:=by unfold big;omega
 have hnm:=YK t;have h1:=W2 t bs hmb;have h2:=QaS t bs hmb;obtain⟨o,h3⟩:=QiV t bs 1 [] 0 true hmb (.inl rfl) Jf (by omega);have h3':call tb 256 [.sl true 5 [],.agg (Qf t),.int .i64 1] bs=some (.sl o 5 (QF (WJ [] t 1)),bs):=h3;rw[zcc 253 rfl rfl];by_cases hv:Q4 t=0
 ·cases ha:arB t
  ·simp[f253C,h1,h2,hv,ha,ofE,ofP,QF]
  ·by_cases hl:200 < (WJ [] t 1).length
   ·have hl': (200:Int) < ((WJ [] t 1).length:Int):=by omega
    simp[f253C,h1,h2,h3',hv,ha,ofE,ofP,hl,hl'];simp[QF]
   ·have hl': ¬(200:Int) < ((WJ [] t 1).length:Int):=by omega
    simp[f253C,h1,h2,h3',hv,ha,ofE,ofP,hl,hl']
 ·simp[f253C,h1,hv,ofE,ofP,QF]
def QpL {B0 B:Qa} {v:AV} {l:Qj} (h:PS B0 B v l) (n:Nat): ∃o M2,∀ρ:Ql,ρ n=v->Yr {env:=ρ,bs:=B} n 5=some (.sl o 5 (QF l),{env:=upd ρ n .undef,bs:=B0 ++ M2}):=by
 obtain⟨M,id,sz,rfl,rfl,hc⟩:=h;rcases hc with⟨rfl,rfl,rfl⟩ | ⟨rfl,hid,t,hb,hne⟩
 ·exact⟨true,M,fun ρ hn=>by simp[Yr,hn,QF]⟩
 ·by_cases hl:l.length=0
  ·have:l=[]:=YX hl;subst this;exact⟨false,M,fun ρ hn=>by simp[Yr,hn,QF]⟩
  ·refine⟨true,M.set (id - B0.length) [],fun ρ hn=> ?_⟩;have hle:0+l.length*5<=(QX l ++ t).length:=by rw[Zk,XK];omega
   have hch:Z3 (QX l ++ t) 0 5 l.length=QF l:=XZ (f:=Zx) (k:=5) Vh V4 l t;simp only[Yr,hn];rw[Qn ⟨trivial,by omega⟩,Qm hl,hb];simp only[QC];rw[Qn hle,hch,X7 hid];rfl
def Si (t:Tm) (bs:Qa) (hm:t.mass < 30000000):call tb 186 [.agg (Qf t)] bs=some (.tup [.sl false 5 (QF (ofP t)),.int .i64 (ofE t)],bs):=by
 have hmb:t.mass < big:=by unfold big;omega
 have hnm:=YK t;have h1:=UJ t bs hmb;obtain⟨v,B,hc,hps⟩:=QiE t bs bs (.gs 0 0 0 0) [] 1 0 hmb (.inl rfl) (QeR bs) Jf (by omega);obtain⟨id,sz,rfl⟩:=UR hps;obtain⟨M,hM⟩: ∃M,B=bs ++ M:=by obtain⟨M,_,_,h,_⟩:=hps;exact⟨M,h⟩
 have hgn:=N5 (WJ [] t 1);rw[zcc 186 rfl rfl];by_cases hv:Q4 t=0
 ·cases ha:arB t
  ·rw[ha]at hc hps;simp only[Yl,Zi]at hc;simp[f186C,h1,hv,hc,ha,ofE,ofP,QF,hM]
  ·rw[ha]at hc hps;simp only[Zj]at hc hps;by_cases hl:200 < (WJ [] t 1).length
   ·have hl': (200:Int) < ((WJ [] t 1).length:Int):=by omega
    simp[f186C,h1,hv,hc,ha,ofE,ofP,hl,hl',hM];simp[QF]
   ·have hl': ¬(200:Int) < ((WJ [] t 1).length:Int):=by omega
    obtain⟨o,M2,hf⟩:=QpL hps 24;simp[f186C,h1,hv,hc,ha,ofE,ofP,hl,hl',hf]
 ·simp[f186C,h1,hv,ofE,ofP,QF]
def gtO (prev:Option Tm) (t:Tm):Bool:=match prev with
 | none=>true
 | some q=>decide (Qq q t < 0)
def X6 (n:Int):Bool:=decide (n < -1000) || decide (1000 < n)
def vPL:Option Tm->Qj->Int
 | _,[]=>0
 | prev,p:: r=>if Q4 p.1≠0 then Q4 p.1 else if XB p.1 then 1 else if p.2=0\/X6 p.2=true then 7 else if gtO prev p.1 then vPL (some p.1) r else 5
def Z7 (l:Qj):Int:=if 200 < l.length then 3 else vPL none l
def Iq (l:Qj):Option Tm:=l.getLast?.map (·.1)
def H3:Iq []=none:=rfl
def OL (l:Qj) (p:Pw):Iq (l ++ [p])=some p.1:=by simp[Iq]
def EO:=@List.eq_nil_or_concat
def EP:=@List.concat_eq_append
def Qb0 (l:Qj) (bs:Qa) (hl:l.length < 100000000) (hm: ∀q∈l,q.1.mass < big):
  ∀(post pre:Qj) (o:Bool) (ρ:Ql),l=pre ++ post->ρ 0= .sl o 5 (QF l)->ρ 9= .sl false 5 (QF l)->ρ 10= .int .i64 l.length->ρ 11= .int .i64 pre.length->
  R tb (.loop f197l0) ρ bs (Qo 0 (QB tb f197r0 (QN f197 bs)))=some (.int .i64 (vPL (Iq pre) post),bs):=by
 intro post
 induction post with
 | nil=>
  intro pre o ρ hk h0 h9 h10 h11;simp only[QH]at hk;rw[<- hk]at h11;rw[Qe f197l0.eq_1];simp[h0,h9,h10,h11,f197r0,vPL]
 | cons p post IH=>
  intro pre o ρ hk h0 h9 h10 h11;have hg:=Qw hk;have hll:=QE hk;have hw1:=wr1 pre.length (by omega);have hlt:=QI hk;have hmp:=hm p (by rw[hk];simp);have h1:=UJ p.1 bs hmp;have h2:=Lt p.1 bs;have h3:=fun ρ=>IH (pre ++ [p]) o ρ (by rw[hk];simp);rw[OL]at h3;rw[Qe f197l0.eq_1];by_cases c1:Q4 p.1=0
  ·cases c2:XB p.1
   ·by_cases c3:p.2=0
    ·simp[h0,h9,h10,h11,hg,hlt,h1,h2,c1,c2,c3,vPL]
    ·by_cases c4:p.2 < -1000
     ·simp[h0,h9,h10,h11,hg,hlt,h1,h2,c1,c2,c3,c4,vPL,X6]
     ·by_cases c5:1000 < p.2
      ·simp[h0,h9,h10,h11,hg,hlt,h1,h2,c1,c2,c3,c4,c5,vPL,X6]
      ·rcases EO pre with rfl | ⟨pre2,q,rfl⟩
       ·have h11':ρ 11= .int .i64 0:=h11;have hg':l[0]? =some p:=hg;have hlt':0 < l.length:=by omega
        have hw0:IntKind.i64.wrap 1=1:=rfl;clear h11 hg hlt hw1;simp[-getElem?_pos,h0,h9,h10,h11',hg',hlt',hw0,h1,h2,c1,c2,c3,c4,c5,vPL,X6,H3,gtO];refine h3 _ ?_ ?_ ?_ ?_ <;> simp[h0,h9,h10]
       ·have hg2:l[pre2.length]? =some q:=by rw[hk];simp
        have hq:=hm q (by rw[hk];simp);have h4:=call_Compare q.1 p.1 bs hq hmp;have hp0: (0:Int) < (pre2.length:Int)+1:=by omega
        have hp1: (0:Int)<=(pre2.length:Int)+1:=by omega
        have hp2: ((pre2.length:Int)+1).toNat=pre2.length+1:=by omega
        have hw2:IntKind.i64.wrap (pre2.length:Int)=(pre2.length:Int):=Zf (by simp at hll;omega) (by simp at hll;omega);simp only[EP]at *;rw[OL];simp only[Zk,RA,Int.natCast_add,Int.natCast_one]at h11 hg hlt hw1 h3;by_cases c6:Qq q.1 p.1 < 0
        ·have c6': ¬0<=Qq q.1 p.1:=by omega
         simp[h0,h9,h10,h11,hg,hg2,hlt,hw1,hw2,hp0,hp1,hp2,h1,h2,h4,c1,c2,c3,c4,c5,c6,c6',vPL,X6,gtO];refine h3 _ ?_ ?_ ?_ ?_ <;> simp[h0,h9,h10]
        ·have c6':0<=Qq q.1 p.1:=by omega
         simp[h0,h9,h10,h11,hg,hg2,hlt,hw1,hw2,hp0,hp1,hp2,h1,h2,h4,c1,c2,c3,c4,c5,c6,c6',vPL,X6,gtO]
   ·simp[h0,h9,h10,h11,hg,hlt,h1,h2,c1,c2,vPL]
  ·simp[h0,h9,h10,h11,hg,hlt,h1,h2,c1,vPL]
def Nv (l:Qj) (o:Bool) (bs:Qa) (hl:l.length < 100000000) (hm: ∀q∈l,q.1.mass < big):call tb 197 [.sl o 5 (QF l)] bs=some (.int .i64 (Z7 l),bs):=by
 have h:=fun ρ=>Qb0 l bs hl hm l [] false ρ rfl;rw[zcc 197 rfl rfl];by_cases c:200 < l.length
 ·have c': (200:Int) < (l.length:Int):=by omega
  simp[f197C,c,c',Z7]
 ·have c': ¬(200:Int) < (l.length:Int):=by omega
  simp[f197C,c,c',Z7];refine h _ ?_ ?_ ?_ ?_ <;> simp
def C5 (l:Qj) (bs:Qa) (hl:l.length < 100000000) (hm: ∀q∈l,q.1.mass < big):
  ∀(post pre:Qj) (o:Bool) (ρ:Ql),l=pre ++ post->ρ 0= .sl o 5 (QF l)->ρ 3= .int .i64 pre.length->
  R tb (.loop f259l0) ρ bs (Qo 0 (QB tb f259r0 (QN f259 bs)))=some (.int .i64 (vPL (Iq pre) post),bs):=by
 intro post
 induction post with
 | nil=>
  intro pre o ρ hk h0 h3;simp only[QH]at hk;rw[<- hk]at h3;rw[Qe f259l0.eq_1];simp[h0,h3,f259r0,vPL]
 | cons p post IH=>
  intro pre o ρ hk h0 h3;have hg:=Qw hk;have hll:=QE hk;have hw1:=wr1 pre.length (by omega);have hlt:=QI hk;have hmp:=hm p (by rw[hk];simp);have h1:=W2 p.1 bs hmp;have h2:=P8 p.1 bs;have hh:=fun ρ=>IH (pre ++ [p]) o ρ (by rw[hk];simp);rw[OL]at hh;rw[Qe f259l0.eq_1];by_cases c1:Q4 p.1=0
  ·cases c2:XB p.1
   ·by_cases c3:p.2=0
    ·simp[h0,h3,hg,hlt,h1,h2,c1,c2,c3,vPL]
    ·by_cases c4:p.2 < -1000
     ·simp[h0,h3,hg,hlt,h1,h2,c1,c2,c3,c4,vPL,X6]
     ·by_cases c5:1000 < p.2
      ·simp[h0,h3,hg,hlt,h1,h2,c1,c2,c3,c4,c5,vPL,X6]
      ·rcases EO pre with rfl | ⟨pre2,q,rfl⟩
       ·have h3':ρ 3= .int .i64 0:=h3;have hg':l[0]? =some p:=hg;have hlt':0 < l.length:=by omega
        have hw0:IntKind.i64.wrap 1=1:=rfl;clear h3 hg hlt hw1;simp[-getElem?_pos,h0,h3',hg',hlt',hw0,h1,h2,c1,c2,c3,c4,c5,vPL,X6,H3,gtO];refine hh _ ?_ ?_ <;> simp[h0]
       ·have hg2:l[pre2.length]? =some q:=by rw[hk];simp
        have hq:=hm q (by rw[hk];simp);have h4:=UY q.1 p.1 bs hq hmp;have hp0: (0:Int) < (pre2.length:Int)+1:=by omega
        have hp1: (0:Int)<=(pre2.length:Int)+1:=by omega
        have hp2: ((pre2.length:Int)+1).toNat=pre2.length+1:=by omega
        have hw2:IntKind.i64.wrap (pre2.length:Int)=(pre2.length:Int):=Zf (by simp at hll;omega) (by simp at hll;omega);simp only[EP]at *;rw[OL];simp only[Zk,RA,Int.natCast_add,Int.natCast_one]at h3 hg hlt hw1 hh;by_cases c6:Qq q.1 p.1 < 0
        ·have c6': ¬0<=Qq q.1 p.1:=by omega
         simp[h0,h3,hg,hg2,hlt,hw1,hw2,hp0,hp1,hp2,h1,h2,h4,c1,c2,c3,c4,c5,c6,c6',vPL,X6,gtO];refine hh _ ?_ ?_ <;> simp[h0]
        ·have c6':0<=Qq q.1 p.1:=by omega
         simp[h0,h3,hg,hg2,hlt,hw1,hw2,hp0,hp1,hp2,h1,h2,h4,c1,c2,c3,c4,c5,c6,c6',vPL,X6,gtO]
   ·simp[h0,h3,hg,hlt,h1,h2,c1,c2,vPL]
  ·simp[h0,h3,hg,hlt,h1,h2,c1,vPL]
def Nw (l:Qj) (o:Bool) (bs:Qa) (hl:l.length < 100000000) (hm: ∀q∈l,q.1.mass < big):call tb 259 [.sl o 5 (QF l)] bs=some (.int .i64 (Z7 l),bs):=by
 have h:=fun ρ=>C5 l bs hl hm l [] false ρ rfl;rw[zcc 259 rfl rfl];by_cases c:200 < l.length
 ·have c': (200:Int) < (l.length:Int):=by omega
  simp[f259C,c,c',Z7]
 ·have c': ¬(200:Int) < (l.length:Int):=by omega
  simp[f259C,c,c',Z7];refine h _ ?_ ?_ <;> simp
def IR: ∀(l:Qj) (prev:Option Tm),vPL prev l=0->(∀q∈l,Q4 q.1=0/\XB q.1=false/\q.2≠0/\ -1000<=q.2/\q.2<=1000)/\Asc (Zn l)/\(∀a,prev=some a->∀q∈l,Qq a q.1 < 0)
 | [],prev,_=>⟨fun q h=>by simp at h,Asc.nil,fun a _ q h=>by simp at h⟩
 | p:: r,prev,h=>by
  simp only[vPL]at h;split at h
  ·rename_i c;exact absurd h c
  rename_i c1;split at h
  ·cases h
  rename_i c2;split at h
  ·cases h
  rename_i c3;split at h
  ·rename_i c4;obtain⟨h1,h2,h3⟩:=IR r (some p.1) h;have hpr:=h3 p.1 rfl;refine⟨fun q hq=> ?_,?_,?_⟩
   ·rcases ZE.1 hq with rfl | hq
    ·simp[X6]at c3;exact⟨by simpa using c1,by simpa using c2,c3.1,c3.2.1,c3.2.2⟩
    ·exact h1 q hq
   ·simp only[Zn,Ym];refine X1.2 ⟨fun y hy=> ?_,h2⟩;obtain⟨q,hq,rfl⟩:=Wf.1 hy;exact hpr q hq
   ·intro a ha q hq;subst ha;have c5:Qq a p.1 < 0:=by simpa[gtO]using c4
    rcases ZE.1 hq with rfl | hq
    ·exact c5
    ·exact Xy c5 (hpr q hq)
  ·cases h
def UU {l:Qj} (h:Z7 l=0) (hm: ∀q∈l,q.1.mass < big):VM l 1000/\l.length<=200/\∀q∈l,Q4 q.1=0/\XB q.1=false:=by
 unfold Z7 at h;split at h
 ·cases h
 ·obtain⟨h1,h2,_⟩:=IR l none h;exact⟨⟨h2,fun q hq=>(h1 q hq).2.2.1,by omega,fun q hq=>⟨hm q hq,(h1 q hq).2.2.2.1,(h1 q hq).2.2.2.2⟩⟩,by omega,fun q hq=>⟨(h1 q hq).1,(h1 q hq).2.1⟩⟩
def Us (t:Tm):Tm:= .mk 3 INV 0 [t]
def WM (l:Qj):Qc:=(l.map fun p=>List.replicate p.2.toNat p.1).flatten
def Vk (l:Qj):Qc:=(l.map fun p=>List.replicate (-p.2).toNat (Us p.1)).flatten
def Z9 (l:Qj):Qc:=WM l ++ Vk l
def Z5:Qc->Tm
 | []=> .mk 3 ONE 0 []
 | [p]=>p
 | p:: q:: r=> .mk 3 MUL 0 (p:: q:: r)
def Yn (l:Qj):Tm×Int:=
 if Z7 l≠0 then(QM,Z7 l)else if 8 < (Z9 l).length then(QM,3)else if Q4 (Z5 (Z9 l))≠0 then(QM,Q4 (Z5 (Z9 l)))else(Z5 (Z9 l),0)
def Cu (a:Qj) (p:Pw):WM (a ++ [p])=WM a ++ List.replicate p.2.toNat p.1:=by simp[WM]
def Cn (a:Qj) (p:Pw):Vk (a ++ [p])=Vk a ++ List.replicate (-p.2).toNat (Us p.1):=by simp[Vk]
def Cv {l:Qj} (h: ∀q∈l,q.2<=8): (WM l).length<=8*l.length:=by
 induction l with
 | nil=>simp[WM]
 | cons p l ih=>
  have h1:=ih fun q hq=>h q (by simp[hq]);have h2:=h p (by simp);simp only[WM,Ym,Tn,Zk,Nh,ZQ]at h1 ⊢;omega
def Co {l:Qj} (h: ∀q∈l,-8<=q.2): (Vk l).length<=8*l.length:=by
 induction l with
 | nil=>simp[Vk]
 | cons p l ih=>
  have h1:=ih fun q hq=>h q (by simp[hq]);have h2:=h p (by simp);simp only[Vk,Ym,Tn,Zk,Nh,ZQ]at h1 ⊢;omega
def Cw {l:Qj} {p:Pw} (h:p∈l):p.2.toNat<=(WM l).length:=by
 induction l with
 | nil=>simp at h
 | cons q l ih=>
  simp only[WM,Ym,Tn,Zk,Nh]at ih ⊢;rcases ZE.1 h with rfl | h
  ·omega
  ·have:=ih h;omega
def Cp {l:Qj} {p:Pw} (h:p∈l): (-p.2).toNat<=(Vk l).length:=by
 induction l with
 | nil=>simp at h
 | cons q l ih=>
  simp only[Vk,Ym,Tn,Zk,Nh]at ih ⊢;rcases ZE.1 h with rfl | h
  ·omega
  ·have:=ih h;omega
def I5 (n:Qu) (ks:Qc) (o:Bool) (bs:Qa):call tb 198 [.str n,.sl o 4 (Qb ks)] bs=some (.agg (Qf (.mk 3 n 0 ks)),bs):=by
 rw[zcc 198 rfl rfl];simp[f198,f198C,Tq]
def Km {k:Nat} (acc:Qc) (x:Tm): (acc ++ [x])++ List.replicate k x=acc ++ List.replicate (k+1) x:=by simp[SG]
def Qlp {p:Pw} {bs:Qa} (hp:p.1.mass < big) (hN: -8<=p.2/\p.2<=8) (c:AC) (K:Kn) (X:Out): ∀(k:Nat) (acc:Qc) (i:Nat) (ρ:Ql),i+k=p.2.toNat->acc.length+k < 100000000->ρ 5= .sl true 4 (Qb acc)->ρ 8= .bx (Zx p)->ρ 34= .int .i64 p.2->ρ 35= .int .i64 i->
  (∀ρ':Ql,ρ' 5= .sl true 4 (Qb (acc ++ List.replicate k p.1))->(∀j,j < 34->j≠5->ρ' j=ρ j)->R tb c ρ' bs K=X)->
  R tb (.loop f196l0) ρ bs (Qo 2 (QB tb c K))=X:=by
 intro k
 induction k with
 | zero=>
  intro acc i ρ hi hl h5 h8 h34 h35 h;have hn: ¬(i:Int) < p.2:=by omega
  rw[Qe f196l0.eq_1];simp[h5,h8,h34,h35,hn];apply h
  ·simp[h5]
  ·intro j hj h5j;have:j≠36:=by omega
   simp[this]
 | succ k IH=>
  intro acc i ρ hi hl h5 h8 h34 h35 h;have hn: (i:Int) < p.2:=by omega
  have hw1:IntKind.i64.wrap ((i:Int)+1)=((i+1:Nat):Int):=by rw[Zf (by omega) (by omega)];omega
  have hb: (acc.length+1)*56<=140737488355328:=WV (by omega);have hc:=RB p.1 bs hp;rw[Qe f196l0.eq_1];simp[h5,h8,h34,h35,hn,hw1,hb,hc,Z4,ZL];refine IH (acc ++ [p.1]) (i+1) _ (by omega) (by simp;omega) ?_ ?_ ?_ ?_ ?_
  ·simp
  ·simp[h8]
  ·simp[h34]
  ·simp
  ·intro ρ' g5 gj;rw[Km]at g5;refine h ρ' g5 fun j hj h5j=> ?_;rw[gj j hj h5j];have e1:j≠35:=by omega
   have e2:j≠36:=by omega
   have e3:j≠37:=by omega
   have e4:j≠38:=by omega
   have e5:j≠39:=by omega
   have e6:j≠40:=by omega
   have e7:j≠41:=by omega
   have e8:j≠42:=by omega
   have e9:j≠43:=by omega
   simp[*]
def Qlq {p:Pw} {bs:Qa} (hp:p.1.mass < big) (hN: -8<=p.2/\p.2<=8) (c:AC) (K:Kn) (X:Out): ∀(k:Nat) (acc:Qc) (i:Nat) (ρ:Ql),i+k=(-p.2).toNat->acc.length+k < 100000000->ρ 6= .sl true 4 (Qb acc)->ρ 8= .bx (Zx p)->ρ 46= .int .i64 (-p.2)->ρ 47= .int .i64 i->
  (∀ρ':Ql,ρ' 6= .sl true 4 (Qb (acc ++ List.replicate k (Us p.1)))->(∀j,j < 34->j≠6->ρ' j=ρ j)->R tb c ρ' bs K=X)->
  R tb (.loop f196l1) ρ bs (Qo 4 (Qo 1 (QB tb c K)))=X:=by
 intro k
 induction k with
 | zero=>
  intro acc i ρ hi hl h6 h8 h46 h47 h;have hn: ¬(i:Int) < -p.2:=by omega
  rw[Qe f196l1.eq_1];simp[h6,h8,h46,h47,hn];apply h
  ·simp[h6]
  ·intro j hj h5j;have:j≠48:=by omega
   simp[this]
 | succ k IH=>
  intro acc i ρ hi hl h6 h8 h46 h47 h;have hn: (i:Int) < -p.2:=by omega
  have hw1:IntKind.i64.wrap ((i:Int)+1)=((i+1:Nat):Int):=by rw[Zf (by omega) (by omega)];omega
  have hb: (acc.length+1)*56<=140737488355328:=WV (by omega);have hc:=RB p.1 bs hp;have hc2:=I5 INV [p.1] false bs;simp only[INV]at hc2;rw[Qe f196l1.eq_1];simp[h6,h8,h46,h47,hn,hw1,hb,hc,hc2,Z4];rw[show Qf (Tm.mk 3 [105,110,118] 0 [p.1])=Qf (Us p.1)from rfl];simp[Z4,ZL];refine IH (acc ++ [Us p.1]) (i+1) _ (by omega) (by simp;omega) ?_ ?_ ?_ ?_ ?_
  ·simp[Us,INV]
  ·simp[h8]
  ·simp[h46]
  ·simp
  ·intro ρ' g6 gj;rw[Km]at g6;refine h ρ' g6 fun j hj h5j=> ?_;rw[gj j hj h5j];have e1:j≠47:=by omega
   have e2:j≠48:=by omega
   have e3:j≠49:=by omega
   have e4:j≠50:=by omega
   have e5:j≠51:=by omega
   have e6:j≠52:=by omega
   have e7:j≠53:=by omega
   have e8:j≠54:=by omega
   have e9:j≠55:=by omega
   have e10:j≠56:=by omega
   have e11:j≠57:=by omega
   simp[*]
def Qls (l:Qj) (bs:Qa) (hv:Z7 l=0) (hl: (Z9 l).length < 100000000) (hm:Qv (Z9 l) < big - 100) (ρ:Ql) (h2:ρ 2= .bx [.int .i64 0,.str [],.int .i64 0,.sl true 4 []]) (h5:ρ 5= .sl true 4 (Qb (WM l))) (h6:ρ 6= .sl true 4 (Qb (Vk l))):
  R tb f196r2 ρ bs (QN f196 bs)=some (Zs (Yn l),bs):=by
 have hc:=OX [WM l,Vk l] false bs (by simp) (by simpa[Z9]using hl);have hfl: [WM l,Vk l].flatten=Z9 l:=by simp[Z9]
 rw[hfl]at hc;simp only[SS,Ym,We]at hc;have ha:=I5 MUL (Z9 l) false bs;have ha1:=I5 ONE [] true bs;simp only[MUL]at ha;simp only[ONE,Qb]at ha1;by_cases c8:8 < (Z9 l).length
 ·have c8': (8:Int) < ((Z9 l).length:Int):=by omega
  have e:Yn l=(QM,3):=by simp[Yn,hv,c8]
  rw[e];simp[f196r2,h2,h5,h6,hc,c8',Zs,Q7]
 ·have c8': ¬(8:Int) < ((Z9 l).length:Int):=by omega
  have hpm: (Z5 (Z9 l)).mass < big:=by
   unfold big at *
   match h:Z9 l with
   | []=>simp[Z5,QK,Qv,ONE]
   | [p]=>rw[h]at hm;simp[Z5,Qv]at hm ⊢;omega
   | p:: q:: r=>rw[h]at hm c8;simp[Z5,QK,Qv,MUL]at hm c8 ⊢;omega
  have hvv:=UJ (Z5 (Z9 l)) bs hpm;have e:Yn l=if Q4 (Z5 (Z9 l))≠0 then(QM,Q4 (Z5 (Z9 l)))else(Z5 (Z9 l),0):=by simp[Yn,hv,c8]
  rw[e];generalize hL:Z9 l=L at *
  match L,hL with
  | [],hL=>
   simp only[Z5,ONE]at hvv;simp only[Qb]at ha hc;by_cases cv:Q4 (.mk 3 [111,110,101] 0 [])=0
   ·rw[cv]at hvv;simp[f196r2,h2,h5,h6,hc,ha,ha1,hvv,cv,Zs,Z5,ONE]
   ·simp[f196r2,h2,h5,h6,hc,ha,ha1,hvv,cv,Zs,Q7,Z5,ONE]
  | [p],hL=>
   simp only[Z5]at hvv;by_cases cv:Q4 p=0
   ·rw[cv]at hvv;simp[f196r2,h2,h5,h6,hc,ha,hvv,cv,Zs,Z5]
   ·simp[f196r2,h2,h5,h6,hc,ha,hvv,cv,Zs,Q7,Z5]
  | p:: q:: r,hL=>
   simp only[Z5,MUL]at hvv;have c8'': ¬(8:Int) < (r.length:Int)+1+1:=by simpa using c8'
   have n0: ¬(r.length:Int)+1+1=0:=by omega
   have n1: ¬(r.length:Int)+1+1=1:=by omega
   by_cases cv:Q4 (.mk 3 [109,117,108] 0 (p:: q:: r))=0
   ·rw[cv]at hvv;simp[f196r2,h2,h5,h6,hc,ha,hvv,cv,c8'',n0,n1,Zs,Z5,MUL]
   ·simp[f196r2,h2,h5,h6,hc,ha,hvv,cv,c8'',n0,n1,Zs,Q7,Z5,MUL]
def Qlr (l:Qj) (bs:Qa) (hv:Z7 l=0) (hl:l.length < 5000000) (hk: ∀q∈l,q.1.mass < big) (hm: (∀q∈l,-8<=q.2/\q.2<=8)->Qv (Z9 l) < big - 100):
  ∀(post pre:Qj) (ρ:Ql),l=pre ++ post->(∀q∈pre,-8<=q.2/\q.2<=8)->ρ 2= .bx [.int .i64 0,.str [],.int .i64 0,.sl true 4 []]->ρ 5= .sl true 4 (Qb (WM pre))->ρ 6= .sl true 4 (Qb (Vk pre))->
   ρ 18= .sl false 5 (QF l)->ρ 19= .int .i64 l.length->ρ 20= .int .i64 pre.length->
  R tb (.loop f196l2) ρ bs (Qo 0 (QB tb f196r2 (QN f196 bs)))=some (Zs (Yn l),bs):=by
 intro post
 induction post with
 | nil=>
  intro pre ρ hkk hq h2 h5 h6 h18 h19 h20;simp only[QH]at hkk;subst hkk;have hr:=Qls l bs hv (by
   have h1:=Cv (l:=l) fun q h=>(hq q h).2;have h2:=Co (l:=l) fun q h=>(hq q h).1;simp only[Z9,Zk];omega) (hm hq)
  rw[Qe f196l2.eq_1];simp[h18,h19,h20];apply hr <;> simp[h2,h5,h6]
 | cons p post IH=>
  intro pre ρ hkk hq h2 h5 h6 h18 h19 h20;have hg:=Qw hkk;have hll:l.length=pre.length+ (post.length+1):=by rw[hkk];simp
  have hw1:=wr1 pre.length (by omega);have hlt: (pre.length:Int) < (l.length:Int):=by omega
  have hpl:p∈l:=by rw[hkk];simp
  have hmp:=hk p hpl;have hbig: ∀n,n < (Z9 l).length->8<=n->Yn l=(QM,3):=by
   intro n h1 h2;have:8 < (Z9 l).length:=by omega
   simp[Yn,hv,this]
  rw[Qe f196l2.eq_1];by_cases c1:8 < p.2
  ·have h1:=Cw hpl;have e:=hbig 8 (by simp only[Z9,Zk];omega) (by omega);rw[e];simp[h2,h5,h6,h18,h19,h20,hg,hlt,c1,Zs,Q7]
  ·by_cases c2:p.2 < -8
   ·have h1:=Cp hpl;have e:=hbig 8 (by simp only[Z9,Zk];omega) (by omega);rw[e];simp[h2,h5,h6,h18,h19,h20,hg,hlt,c1,c2,Zs,Q7]
   ·have hN: -8<=p.2/\p.2<=8:=by omega
    have hw:IntKind.i64.wrap (-p.2)= -p.2:=Zf (by omega) (by omega);have hq2: ∀q∈pre ++ [p],-8<=q.2/\q.2<=8:=by
     intro q h;rcases Xe.1 h with h | h
     ·exact hq q h
     ·simp at h;subst h;exact hN
    have h1:=Cv (l:=pre) fun q h=>(hq q h).2;have h3:=Co (l:=pre) fun q h=>(hq q h).1;have ih:=fun ρ=>IH (pre ++ [p]) ρ (by rw[hkk];simp) hq2;simp[h2,h5,h6,h18,h19,h20,hg,hlt,c1,c2];refine Qlp hmp hN _ _ _ p.2.toNat (WM pre) 0 _ (by omega) (by omega) ?_ ?_ ?_ ?_ ?_
    ·simp[h5]
    ·simp
    ·simp
    ·simp
    ·intro ρ' g5 gj;have g2:ρ' 2=_:=gj 2 (by omega) (by omega);have g6:ρ' 6=_:=gj 6 (by omega) (by omega);have g8:ρ' 8=_:=gj 8 (by omega) (by omega);have g18:ρ' 18=_:=gj 18 (by omega) (by omega);have g19:ρ' 19=_:=gj 19 (by omega) (by omega);have g20:ρ' 20=_:=gj 20 (by omega) (by omega);simp[h2,h6,h18,h19,h20]at g2 g6 g8 g18 g19 g20;simp[f196r0,g8,hw];refine Qlq hmp hN _ _ _ (-p.2).toNat (Vk pre) 0 _ (by omega) (by omega) ?_ ?_ ?_ ?_ ?_
     ·simp[g6]
     ·simp[g8]
     ·simp
     ·simp
     ·intro ρ'' k6 kj;have k2:ρ'' 2=_:=kj 2 (by omega) (by omega);have k5:ρ'' 5=_:=kj 5 (by omega) (by omega);have k18:ρ'' 18=_:=kj 18 (by omega) (by omega);have k19:ρ'' 19=_:=kj 19 (by omega) (by omega);have k20:ρ'' 20=_:=kj 20 (by omega) (by omega);simp[g2,g5,g18,g19,g20]at k2 k5 k18 k19 k20;simp[f196r1,k20,hw1];apply ih <;> simp[k2,k5,k6,k18,k19,Cu,Cn]
def QiH (l:Qj) (o:Bool) (bs:Qa) (hl:l.length < 5000000) (hk: ∀q∈l,q.1.mass < big) (hm: (∀q∈l,-8<=q.2/\q.2<=8)->Qv (Z9 l) < big - 100):
  call tb 196 [.sl o 5 (QF l)] bs=some (Zs (Yn l),bs):=by
 have h1:=Nv l false bs (by omega) hk;rw[zcc 196 rfl rfl];by_cases hv:Z7 l=0
 ·have h:=fun ρ=>Qlr l bs hv hl hk hm l [] ρ rfl (by simp);simp[f196C,h1,hv];apply h <;> simp[WM,Vk,Qb]
 ·have e:Yn l=(QM,Z7 l):=by simp[Yn,hv]
  rw[e];simp[f196C,h1,hv,Zs,Q7]
end Go.Am
