/-
  Rc14, Rc15, Rc16, Rc17, Rc18.
-/
import Derived.Test.YtmlbijpbecpjoaaGreatDoorG17
set_option linter.all false
open Go.Am.F
namespace Go.Am
set_option maxRecDepth 20000
@[simp] def AQ (t:Tm): (Qf t).drop 5=[]:=by simp[Zr]
def QjL (l:Qj) (id:Nat) (B:Qa) (r:Out):Prop:=∃t,t≠[]/\r=some (.gs id 0 5 l.length,B.set id (QW l ++ t))
def Qg5 {pre post:Qj} {p:Pw} {id n:Nat} {B:Qa} {t:Qh} (hn:n=pre.length+1+post.length) (hl:n < 100000000) (hb:B[id]? =some (QW (pre ++ p:: post)++ t)):
  QjL (pre ++ post) id B (call tb 195 [.gs id 0 5 n,.int .i64 pre.length,.int .i64 ((pre.length:Int)+1)] B):=by
 have hlt:=WQ hb;have e1: (0:Int)<=(pre.length:Int):=by omega
 have e2: (pre.length:Int)<=(pre.length:Int)+1:=by omega
 have e3: (pre.length:Int)+1<=(n:Int):=by omega
 have e4: (0:Int)<=(pre.length:Int)+1:=by omega
 have e5: ¬(pre.length:Int)=(pre.length:Int)+1:=by omega
 have e6: (pre.length:Int)<=(n:Int):=by omega
 have e7: ((pre.length:Int)+1).toNat=pre.length+1:=by omega
 have e8:n - (pre.length+1)=post.length:=by omega
 have e9: (pre.length+post.length)=n - 1:=by omega
 have e10:n - (n - 1)=1:=by omega
 have e11: ((n - 1:Nat):Int)<=(n:Int):=by omega
 have hl0: (QW pre).length=pre.length*5:=Xu pre;have hp0: (QW post).length=post.length*5:=Xu post;have hst: (QW post).map AV.strip=QW post:=Xx VO post;have hrl: (QW (pre ++ p:: post)++ t).length=n*5+t.length:=by rw[Zo,Xu];simp;omega
 have htk:=PM (f:=Zq) (k:=5) W3 (l:=pre ++ p:: post) (pre:=pre) (post:=p:: post) rfl t;have hdr:=Kq (f:=Zq) (k:=5) W3 (l:=pre ++ p:: post) (pre:=pre ++ [p]) (post:=post) (by simp) t;rw[Zo,Tu]at hdr;have hne:QW (pre ++ p:: post)++ t≠[]:=by
  intro e;have:=Wu List.length e;rw[hrl]at this;simp at this;omega
 have hb56:n*64<=140737488355328:=by omega
 have hb57:pre.length*64<=140737488355328:=by omega
 have hb58: (pre.length+post.length)*64<=140737488355328:=by omega
 have hq2: (n:Int)<=((QW (pre ++ p:: post)++ t).length:Int) / 5:=by rw[hrl];omega
 have e13:pre.length<=n:=by omega
 rw[zcc 195 rfl rfl];generalize hcc:QW (pre ++ p:: post)++ t=c at *;by_cases hp:post=[]
 ·subst hp;have e8':n - (pre.length+1)=0:=by simpa using e8
  have e9':pre.length=n - 1:=by simpa using e9
  have e12:n - pre.length=1:=by omega
  have hle:pre.length*5+5<=c.length:=by omega
  refine⟨List.replicate 5 .undef ++ c.drop (pre.length*5+5),by simp,?_⟩;simp[-getElem?_pos,f195C,e1,e2,e3,e4,e5,e6,e7,e8',e12,e13,hb,hb57,hq2,hle,hne,htk,appM,Wt]
 ·have hz: ¬post.length=0:=fun e=>hp (YE e);have hle: (pre.length+1)*5+post.length*5<=c.length:=by omega
  have hle2: (pre.length+post.length)*5<=c.length:=by omega
  have hle3:pre.length*5<=c.length:=by omega
  have htp: ((c.map AV.strip).drop ((pre.length+1)*5)).take (post.length*5)=QW post:=by
   rw[<- K5,hdr,<- hp0,UI];change List.take (QW post).length (List.map AV.strip (QW post)++ List.map AV.strip t)=QW post;rw[hst,OK]
  have e14: (pre.length:Int)+ (post.length:Int)<=(n:Int):=by omega
  have e15: (0:Int)<=(pre.length:Int)+ (post.length:Int):=by omega
  have e16:n - (pre.length+post.length)=1:=by omega
  have e17: ((pre.length:Int)+ (post.length:Int)).toNat=pre.length+post.length:=by omega
  have e18:pre.length+post.length<=n:=by omega
  have hgs: ∀x:Qh,(B.set id x)[id]? =some x:=fun x=>by simp[hlt]
  obtain⟨c1,hc1⟩: ∃c1,YG Zq pre ++ (QW post ++ c.drop (pre.length*5+post.length*5))=c1:=⟨_,rfl⟩;have hc1':c1=QW (pre ++ post)++ c.drop ((pre.length+post.length)*5):=by rw[<- hc1,show QW (pre ++ post)=QW pre ++ QW post from Ua _ _ _,ZT];simp
  have hr1: (QW (pre ++ post)).length=(pre.length+post.length)*5:=by rw[Xu];simp
  have hl1:c1.length=c.length:=by rw[hc1',Zo,hr1,Ut];omega
  have htk1:c1.take ((pre.length+post.length)*5)=QW (pre ++ post):=by rw[hc1',<- hr1,OK]
  have hle4: (pre.length+post.length)*5+5<=c1.length:=by omega
  rw[<- hl1]at hq2;refine⟨List.replicate 5 .undef ++ c1.drop ((pre.length+post.length)*5+5),by simp,?_⟩;rw[hl1]at hq2;have hq3: (n:Int)<=(c1.length:Int) / 5:=by rw[hl1];exact hq2
  simp[-getElem?_pos,f195C,e1,e2,e3,e4,e5,e6,e7,e8,e14,e15,e16,e17,e18,hp,hb,hb57,hb58,hq2,hq3,hle,hle2,hle3,hle4,hne,htk,htk1,htp,hp0,hgs,hc1,appM,Wt]
def Xd:Qj->Tm->Int->Qj
 | [],t,n=>[(t,n)]
 | p:: r,t,n=>if Qp p.1 t < 0 then p:: Xd r t n else if Qp p.1 t=0 then(if p.2+n=0 then r else(p.1,p.2+n):: r)else(t,n):: p:: r
def FZ: ∀(pre post:Qj) (t:Tm) (n:Int),(∀p∈pre,Qp p.1 t < 0)->Xd (pre ++ post) t n=pre ++ Xd post t n
 | [],_,_,_,_=>rfl
 | p:: pre,post,t,n,h=>by
  simp only[WV,Xd];rw[Qn (h p (by simp)),FZ pre post t n fun q hq=>h q (by simp[hq])]
def PS (B0 B:Qa) (v:AV) (l:Qj):Prop:=∃(M:Qa) (id sz:Nat),B=B0 ++ M/\v= .gs id 0 sz l.length/\
 ((sz=0/\id=0/\l=[])\/(sz=5/\B0.length<=id/\∃t,B[id]? =some (QW l ++ t)/\QW l ++ t≠[]))
def Qeq (B0:Qa) (l:Qj) (r:Out):Prop:=∃v B,r=some (v,B)/\PS B0 B v l
def Qdv (B0:Qa):PS B0 B0 (.gs 0 0 0 0) []:=⟨[],0,0,by simp,rfl,.inl ⟨rfl,rfl,rfl⟩⟩
def Wj {B0 M:Qa} {id:Nat} (h:B0.length<=id) (x:Qh): (B0 ++ M).set id x=B0 ++ M.set (id - B0.length) x:=by rw[Pp,Qm (by omega)]
def ZI:=@List.getElem?_cons_succ
def Pm:=@List.take_append
def CR {B0 B:Qa} {v:AV} {l:Qj} {p:Pw} (h:PS B0 B v l) (hl:l.length < 50000000) (hm: ∀q∈l,q.1.mass < big/\ -100000000 < q.2/\q.2 < 100000000) (hp:p.1.mass < big) (hpn: -100000000 < p.2/\p.2 < 100000000) (ha:Asc (ZU l)):
  Qeq B0 (Xd l p.1 p.2) (call tb 189 [v,.agg (Zq p)] B):=by
 obtain⟨M,id,sz,rfl,rfl,hcase⟩:=h;have hb: ∃c,l≠[]->sz=5/\(B0 ++ M)[id]? =some (QW l ++ c):=by
  rcases hcase with⟨_,_,rfl⟩ | ⟨h1,_,t,h2,_⟩
  ·exact⟨[],fun h=>absurd rfl h⟩
  ·exact⟨t,fun _=>⟨h1,h2⟩⟩
 obtain⟨c,hb⟩:=hb;obtain⟨k,⟨hk1,hk2,hk3⟩,hc⟩:=Qg4 (t:=p.1) (by omega) hb (fun q hq=>(hm q hq).1) hp ha;have hcl:=S9 p.1 (B0 ++ M) hp;have hsplit:l=l.take k ++ l.drop k:=(KI _ _).symm;have hkl: (l.take k).length=k:=by rw[Xf];omega
 have hpre: ∀q∈l.take k,Qp q.1 p.1 < 0:=by
  intro q hq;obtain⟨i,hi,rfl⟩:=List.getElem_of_mem hq;rw[hkl]at hi;exact hk2 i _ (by rw[List.getElem_take];exact Zv (by omega)) hi
 have hadd:Xd l p.1 p.2=l.take k ++ Xd (l.drop k) p.1 p.2:=by
  conv=>lhs;rw[hsplit]
  exact FZ _ _ _ _ hpre
 rw[zcc 189 rfl rfl];by_cases hh:hit l p.1 k=true
 ·rw[hh]at hc;obtain⟨q,hq,hq0⟩: ∃q,l[k]? =some q/\Qp q.1 p.1=0:=by
   unfold hit at hh;split at hh
   ·rename_i q hq;exact⟨q,hq,by simpa using hh⟩
   ·cases hh
  have hkl2:k < l.length:=by
   rcases QR k l.length with h | h
   ·exact h
   ·rw[Q3 h]at hq;cases hq
  have hne0:l≠[]:=by intro e;subst e;simp at hkl2
  have hqe:q.1=p.1:=Y7 _ _ hq0;have hdk:l.drop k=q:: l.drop (k+1):=by
   rw[KF hkl2];rw[Zv hkl2]at hq;injection hq with hq;rw[hq]
  have hlq:l=l.take k ++ q:: l.drop (k+1):=by rw[<- hdk];exact hsplit
  have hadd2:Xd (l.drop k) p.1 p.2=if q.2+p.2=0 then l.drop (k+1)else(q.1,q.2+p.2):: l.drop (k+1):=by
   rw[hdk];simp[Xd,hq0]
  rw[hadd,hadd2];rcases hcase with⟨_,_,rfl⟩ | ⟨rfl,hid,t,hbx,hne⟩
  ·exact absurd rfl hne0
  have hlt:=WQ hbx;have hqm:=(hm q (WC hq)).2;have hw:IntKind.i64.wrap (q.2+p.2)=q.2+p.2:=Zb (by omega) (by omega);have hrd:=OY hq t;have hlen: (QW l ++ t).length=l.length*5+t.length:=by rw[Zo,Xu]
  have hcell: (QW l ++ t)[k*5+4]? =some (.int .i64 q.2):=by
   have h1: (((QW l ++ t).drop (k*5)).take 5)[4]? =some (.int .i64 q.2):=by rw[hrd];simp
   rw[WB (by omega),XJ]at h1;exact h1
  have hle:k*5+4+1<=(QW l ++ t).length:=by omega
  have hnew: (QW l ++ t).take (k*5+4)++ (AV.int .i64 (q.2+p.2):: (QW l ++ t).drop (k*5+4+1))=QW (l.take k ++ (q.1,q.2+p.2):: l.drop (k+1))++ t:=by
   have h1:=R0 (f:=Zq) (k:=5) W3 (q.1,q.2+p.2) hlq t;rw[hkl]at h1;rw[show QW (l.take k ++ (q.1,q.2+p.2):: l.drop (k+1))++ t=_ from h1.symm];have h2: (QW l ++ t).take (k*5+4)=(QW l ++ t).take (k*5)++ Qf q.1:=by
    rw[List.take_add];congr 1;have: ((QW l ++ t).drop (k*5)).take 4=(((QW l ++ t).drop (k*5)).take 5).take 4:=by rw[K0];rfl
    rw[this];rw[hrd];simp
   rw[h2];simp[Zq]
  have hlt3: (k:Int) < (l.length:Int):=by omega
  have hgs: ∀x:Qh,((B0 ++ M).set id x)[id]? =some x:=fun x=>by
   have:id < (B0 ++ M).length:=hlt;rw[Y8,Qn rfl,Qn this]
  have hcell2: (QW (l.take k ++ (q.1,q.2+p.2):: l.drop (k+1))++ t)[k*5+4]? =some (.int .i64 (q.2+p.2)):=by
   have h0: (l.take k ++ (q.1,q.2+p.2):: l.drop (k+1))[k]? =some (q.1,q.2+p.2):=by
    rw[YS (by omega),hkl,Nat.sub_self];rfl
   have h1: (((QW (l.take k ++ (q.1,q.2+p.2):: l.drop (k+1))++ t).drop (k*5)).take 5)[4]? =some (.int .i64 (q.2+p.2)):=by rw[OY h0 t];simp
   rw[WB (by omega),XJ]at h1;exact h1
  have hln: (l.take k ++ (q.1,q.2+p.2):: l.drop (k+1)).length=l.length:=by simp;omega
  have hle2:k*5+4+1<=(QW (l.take k ++ (q.1,q.2+p.2):: l.drop (k+1))++ t).length:=by rw[Zo,Xu,hln];omega
  have hw2:IntKind.i64.wrap ((k:Int)+1)=(k:Int)+1:=Zb (by omega) (by omega);have hdel:=fun(x:Pw) (B:Qa) (hB:B[id]? =some (QW (l.take k ++ x:: l.drop (k+1))++ t))=>Qg5 (n:=l.length) (by simp;omega) (by omega) hB;rw[hkl]at hdel;generalize hc1:QW (l.take k ++ (q.1,q.2+p.2):: l.drop (k+1))++ t=c1 at *;generalize hc0:QW l ++ t=c0 at *;by_cases hz:q.2+p.2=0
  ·obtain⟨t3,ht3,hd3⟩:=hdel (q.1,q.2+p.2) ((B0 ++ M).set id c1) (by rw[hc1];exact hgs c1);rw[Qn hz];rw[OM]at hd3;refine⟨.gs id 0 5 (l.take k ++ l.drop (k+1)).length,(B0 ++ M).set id (QW (l.take k ++ l.drop (k+1))++ t3),?_,M.set (id - B0.length) (QW (l.take k ++ l.drop (k+1))++ t3),id,5,Wj hid _,rfl,.inr ⟨rfl,hid,t3,hgs _,by simp[ht3]⟩⟩;have hwz:IntKind.i64.wrap (q.2+p.2)=0:=by rw[hw,hz]
   rw[hz]at hnew hcell2;simp[-getElem?_pos,Zf,ZI,f189C,hc,hlt3,hbx,hcell,hle,hwz,hw2,hnew,hgs,hcell2,hle2,hd3]
  ·rw[Qm hz];refine⟨.gs id 0 5 l.length,(B0 ++ M).set id c1,?_,M.set (id - B0.length) c1,id,5,Wj hid _,by rw[hln],.inr ⟨rfl,hid,t,by rw[hc1];exact hgs _,by rw[hc1];intro e;rw[e]at hle2;simp at hle2⟩⟩;simp[-getElem?_pos,Zf,ZI,f189C,hc,hlt3,hbx,hcell,hle,hw,hw2,hnew,hgs,hcell2,hle2,hz]
 ·have hh':hit l p.1 k=false:=by simpa using hh
  have hadd2:Xd (l.drop k) p.1 p.2=p:: l.drop k:=by
   cases hd:l.drop k with
   | nil=>rfl
   | cons q r=>
    have hq:l[k]? =some q:=by rw[<- List.head?_drop,hd];rfl
    have h1:=hk3 k q hq (ZJ _);have h2: ¬Qp q.1 p.1=0:=by simpa[hit,hq]using hh'
    simp[Xd,h1,h2]
  rw[hadd,hadd2];have hins: ∃t2 M2 id2,call tb 194 [.gs id 0 sz l.length,.int .i64 k,.sl false 5 [Zq p]] (B0 ++ M)=some (.gs id2 0 5 (l.length+1),B0 ++ M2)/\B0.length<=id2/\(B0 ++ M2)[id2]? =some (QW (l.take k ++ p:: l.drop k)++ t2):=by
   rw[Wx tb_194];have q1: (0:Int)<=(k:Int):=by omega
   have q2: (k:Int)<=(l.length:Int):=by omega
   have q3: (l.length+1)*64<=140737488355328:=by omega
   have q4:l.length+1<=140737488355328:=by omega
   rcases hcase with⟨rfl,rfl,rfl⟩ | ⟨rfl,hid,t,hbx,hne⟩
   ·have hk0:k=0:=by simpa using hk1
    subst hk0;refine⟨[],M ++ [Zq p],(B0 ++ M).length,?_,by simp,?_⟩
    ·simp[M1,PD,Kh]
    ·rw[<- ZR,YZ];simp[QW,YG]
   ·have hlt:=WQ hbx;have hr0:=Xu l;have hle:l.length*5<=(QW l ++ t).length:=by rw[Zo,hr0];omega
    have hcs:PD k 5 l.length (QW l ++ t) [Zq p]=QW (l.take k ++ p:: l.drop k):=by
     have h1: (QW l ++ t).take (l.length*5)=QW l:=by rw[<- hr0,OK]
     have h2:=PM (f:=Zq) (k:=5) W3 (l:=l) (pre:=l.take k) (post:=l.drop k) hsplit [];have h3:=Kq (f:=Zq) (k:=5) W3 (l:=l) (pre:=l.take k) (post:=l.drop k) hsplit [];rw[hkl,QN]at h2 h3;rw[QN]at h3;unfold PD;rw[h1,h2,h3,show QW (l.take k ++ p:: l.drop k)=QW (l.take k)++ (Zq p ++ QW (l.drop k)) by simp[QW,Ua,TQ]];rw[UI,UI,Xx VO,Xx VO];simp
    have hgp:QY (QW (l.take k ++ p:: l.drop k))=true:=QdD Qh6 _;refine⟨[],M.set (id - B0.length) []++ [QW (l.take k ++ p:: l.drop k)],(B0 ++ M).length,?_,by simp,?_⟩
    ·simp only[M1];rw[Qn ⟨trivial,by omega,by simp,q1,q2,by simpa using q3,by simpa using q4⟩,Qm (by omega),Qn ⟨trivial,trivial⟩,hbx];simp only[QC];rw[Qn ⟨hne,hle⟩,OA,hcs,Wj hid];simp[Kh,hgp]
    ·rw[<- ZR,QN];have: (B0 ++ M).length=(B0 ++ M.set (id - B0.length) []).length:=by simp
     rw[this,YZ]
  obtain⟨t2,M2,id2,hc2,h2a,h2b⟩:=hins;refine⟨.gs id2 0 5 (l.length+1),B0 ++ M2,?_,M2,id2,5,rfl,?_,.inr ⟨rfl,h2a,t2,h2b,?_⟩⟩
  ·rw[hh']at hc;have hfold: [AV.int .i64 p.1.kind,.str p.1.name,.int .i64 p.1.sort,.sl false 4 (Qb p.1.kids),.int .i64 p.2]=Zq p:=(Bm p).symm;have hf:Qf p.1 ++ [.int .i64 p.2]=Zq p:=rfl;simp[f189C,hc,hcl,Pm,OI,hf,AQ,hc2]
  ·congr 1;simp;omega
  ·intro e;have:=Wu List.length e;rw[Zo,Xu]at this;simp at this
def MUL:Qu:=[109,117,108]
def INV:Qu:=[105,110,118]
def ONE:Qu:=[111,110,101]
def W6 (t:Tm):Bool:=decide (t.kind=3) && (t.name == MUL || t.name == INV || t.name == ONE)
def DR {t:Tm} (h:W6 t=true):t.kind=3/\(t.name=MUL\/t.name=INV\/t.name=ONE):=by
 simp only[W6,Qo,Vu,Qv,V7]at h;obtain⟨h1,(h2 | h2) | h2⟩:=h
 ·exact⟨h1,.inl h2⟩
 ·exact⟨h1,.inr (.inl h2)⟩
 ·exact⟨h1,.inr (.inr h2)⟩
def MF (t:Tm) (bs:Qa):call tb 188 [.agg (Qf t)] bs=some (.bool (W6 t),bs):=by
 rw[zcc 188 rfl rfl];by_cases hk:t.kind=3
 ·cases h1:t.name == MUL
  ·cases h2:t.name == INV
   ·cases h3:t.name == ONE <;> simp only[MUL,INV,ONE]at h1 h2 h3 <;> simp[f188C,W6,hk,h1,h2,h3,MUL,INV,ONE]
   ·simp only[MUL,INV,ONE]at h1 h2;simp[f188C,W6,hk,h1,h2,MUL,INV,ONE]
  ·simp only[MUL,INV,ONE]at h1;simp[f188C,W6,hk,h1,MUL,INV,ONE]
 ·simp[f188C,W6,hk]
def Pz (t:Tm) (bs:Qa):call tb 255 [.agg (Qf t)] bs=some (.bool (W6 t),bs):=by
 rw[zcc 255 rfl rfl];by_cases hk:t.kind=3
 ·cases h1:t.name == MUL
  ·cases h2:t.name == INV
   ·cases h3:t.name == ONE <;> simp only[MUL,INV,ONE]at h1 h2 h3 <;> simp[f255C,W6,hk,h1,h2,h3,MUL,INV,ONE]
   ·simp only[MUL,INV,ONE]at h1 h2;simp[f255C,W6,hk,h1,h2,MUL,INV,ONE]
  ·simp only[MUL,INV,ONE]at h1;simp[f255C,W6,hk,h1,MUL,INV,ONE]
 ·simp[f255C,W6,hk]
def WO (t:Tm):Bool:= !((t.name == MUL && decide (t.kids.length < 2)) || (t.name == INV && !decide (t.kids.length=1)) || (t.name == ONE && !decide (t.kids.length=0)))
mutual
def arB:Tm->Bool
 | .mk k n s ks=> !W6 (.mk k n s ks) || (WO (.mk k n s ks) && arL ks)
def arL:List Tm->Bool
 | []=>true
 | t:: ts=>arB t && arL ts
end
def QcF (t:Tm):arB t=(!W6 t || (WO t && arL t.kids)):=by cases t;simp[arB]
mutual
def Vp:List Pw->Tm->Int->List Pw
 | l,.mk k n s ks,m=>if W6 (.mk k n s ks)then VY l ks (if n == INV then -m else m)else Xd l (.mk k n s ks) m
def VY:List Pw->List Tm->Int->List Pw
 | l,[],_=>l
 | l,t:: ts,m=>VY (Vp l t m) ts m
end
def OQ (l:Qj) (t:Tm) (m:Int):Vp l t m=if W6 t then VY l t.kids (if t.name == INV then -m else m)else Xd l t m:=by cases t;simp[Vp]
def Ao (t:Tm) (bs:Qa) (hm:t.mass < big) (ih: ∀x∈t.kids,∀bs,call tb 254 [.agg (Qf x)] bs=some (.bool (arB x),bs)):
  ∀(post pre:Qe) (ρ:Ql),t.kids=pre ++ post->ρ 1= .bx (Qf t)->ρ 3= .int .i64 t.kids.length->ρ 4= .int .i64 pre.length->
  R tb (.loop f254l0) ρ bs (Qq 0 (QH tb f254r0 (QP f254 bs)))=some (.bool (arL post),bs):=by
 have hm2:=QF t;unfold big at hm;intro post
 induction post with
 | nil=>
  intro pre ρ hk h1 h3 h4;simp only[QN]at hk;rw[<- hk]at h4;rw[Qg f254l0.eq_1];simp[h1,h3,h4,f254r0,arL]
 | cons x post IH=>
  intro pre ρ hk h1 h3 h4;have hg:=Qx hk;have hl:=QL hk;have hw1:=wr1 pre.length (by omega);have hlt:=QO hk;have hc:=ih x (by rw[hk];simp) bs;rw[Qg f254l0.eq_1];cases hb:arB x
  ·simp[h1,h3,h4,hg,hw1,hlt,hc,hb,arL]
  ·have h2:=fun ρ=>IH (pre ++ [x]) ρ (by rw[hk];simp);simp[h1,h3,h4,hg,hw1,hlt,hc,hb,arL];refine h2 _ ?_ ?_ ?_ <;> simp[h1,h3]
def Az: ∀(t:Tm) (bs:Qa),t.mass < big->call tb 254 [.agg (Qf t)] bs=some (.bool (arB t),bs):=by
 refine Yn ?_;intro k n s ks ih bs hm;have hl:=fun ρ=>Ao (.mk k n s ks) bs hm (fun x hx bs=>ih x hx bs (by have:=Q4 hx;have:=QF (.mk k n s ks);simp at *;omega)) ks [] ρ rfl;have hsp:=Pz (.mk k n s ks) bs;rw[zcc 254 rfl rfl,QcF];cases hs:W6 (.mk k n s ks)
 ·simp[f254C,hsp,hs]
 ·have hbe: ((Qf (.mk k n s ks)).map AV.strip)=Qf (.mk k n s ks):=Z6 _;obtain⟨rfl,hn⟩:=DR hs;simp only[Z7]at hn;simp only[Zx]at hl;rcases hn with rfl | rfl | rfl
  ·by_cases d:ks.length < 2
   ·have d': (ks.length:Int) < 2:=by omega
    have hc:WO (.mk 3 MUL s ks)=false:=by simp[WO,d]
    simp only[hc];simp[MUL]at hsp hs hc;simp[f254C,hsp,hs,MUL,d']
   ·have d': ¬(ks.length:Int) < 2:=by omega
    have hc:WO (.mk 3 MUL s ks)=true:=by simp[WO,d];simp[MUL,INV,ONE]
    simp only[hc];simp[MUL]at hsp hs hc hl;simp[f254C,hsp,hs,MUL,d'];refine hl _ ?_ ?_ ?_ <;> simp
  ·by_cases d:ks.length=1
   ·have d': (ks.length:Int)=1:=by omega
    have hc:WO (.mk 3 INV s ks)=true:=by simp[WO,d];simp[MUL,INV,ONE]
    simp only[hc];simp[INV]at hsp hs hc hl;simp[f254C,hsp,hs,INV,d'];refine hl _ ?_ ?_ ?_ <;> simp[d]
   ·have d': ¬(ks.length:Int)=1:=by omega
    have hc:WO (.mk 3 INV s ks)=false:=by simp[WO,d]
    simp only[hc];simp[INV]at hsp hs hc;simp[f254C,hsp,hs,INV,d']
  ·by_cases d:ks=[]
   ·subst d;have hc:WO (.mk 3 ONE s [])=true:=by simp[WO];simp[MUL,INV,ONE]
    simp only[hc];simp[ONE]at hsp hs hc hl;simp[f254C,hsp,hs,ONE];refine hl _ ?_ ?_ ?_ <;> simp
   ·have d0: ¬ks.length=0:=fun e=>d (YE e);have d': ¬(ks.length:Int)=0:=by omega
    have hc:WO (.mk 3 ONE s ks)=false:=by simp[WO,d]
    simp only[hc];simp[ONE]at hsp hs hc;simp[f254C,hsp,hs,ONE,d,d']
def NA {n:Nat} (h:n < 100000000):n*64<=140737488355328:=by omega
def LX (l:Qj) (t:Tm) (m:Int) (bs:Qa) (hl:l.length < 100000000) (hm: ∀q∈l,q.1.mass < big) (ht:t.mass < big):
  ∀(post pre acc:Qj) (o:Bool) (ρ:Ql),l=pre ++ post->acc.length+post.length < 100000000->(∀q∈post,q.2≠0/\Qp t q.1≠0)->ρ 0= .sl o 5 (QE l)->ρ 2= .int .i64 m->ρ 4= .bx (Qf t)->ρ 7= .sl true 5 (QE acc)->ρ 8= .bool true->ρ 9= .int .i64 pre.length->
  R tb (.loop f257l0) ρ bs (Qq 0 (QH tb f257r0 (QP f257 bs)))=some (.sl false 5 (QE (acc ++ post)),bs):=by
 intro post
 induction post with
 | nil=>
  intro pre acc o ρ hk ha hp h0 h2 h4 h7 h8 h9;simp only[QN]at hk;rw[<- hk]at h9;rw[Qg f257l0.eq_1];simp[h0,h2,h4,h7,h8,h9,f257r0]
 | cons q post IH=>
  intro pre acc o ρ hk ha hp h0 h2 h4 h7 h8 h9;have hg:=Qx hk;have hll:=QL hk;have hw1:=wr1 pre.length (by omega);have hlt:=QO hk;have hc:=Uv t q.1 bs ht (hm q (by rw[hk];simp));obtain⟨hq1,hq2⟩:=hp q (by simp);have hb: (acc.length+1)*64<=140737488355328:=NA (by simp at ha;omega);have h3:=fun ρ=>IH (pre ++ [q]) (acc ++ [q]) o ρ (by rw[hk];simp) (by simp at ha ⊢;omega) (fun x hx=>hp x (by simp[hx]));simp only[ZR,WV,X3]at h3;rw[Qg f257l0.eq_1];simp[h0,h2,h4,h7,h8,h9,hg,hlt,hw1,hc,hq1,hq2,hb,TW,TV];refine h3 _ ?_ ?_ ?_ ?_ ?_ ?_ <;> simp[h0,h2,h4,h8]
def NZ (l:Qj):Prop:=∀q∈l,q.2≠0
def FL:=@List.mem_map_of_mem
def Qev (l:Qj) (t:Tm) (m:Int) (bs:Qa) (hl:l.length < 50000000) (hm: ∀q∈l,q.1.mass < big/\ -100000000 < q.2/\q.2 < 100000000) (hmm: -100000000 < m/\m < 100000000) (ht:t.mass < big) (ha:Asc (ZU l)) (hz:NZ l):
  ∀(post pre acc:Qj) (o:Bool) (ρ:Ql),l=pre ++ post->acc.length+post.length < 50000000->ρ 0= .sl o 5 (QE l)->ρ 2= .int .i64 m->ρ 4= .bx (Qf t)->ρ 7= .sl true 5 (QE acc)->ρ 8= .bool false->ρ 9= .int .i64 pre.length->
  R tb (.loop f257l0) ρ bs (Qq 0 (QH tb f257r0 (QP f257 bs)))=some (.sl false 5 (QE (acc ++ Xd post t m)),bs):=by
 intro post
 induction post with
 | nil=>
  intro pre acc o ρ hk hac h0 h2 h4 h7 h8 h9;simp only[QN]at hk;rw[<- hk]at h9;have hb: (acc.length+1)*64<=140737488355328:=NA (by simp at hac;omega);have hf:Qf t ++ [.int .i64 m]=Zq (t,m):=rfl;rw[Qg f257l0.eq_1];simp[h0,h2,h4,h7,h8,h9,f257r0,Xd,hb,Pm,OI,hf,TW,TV]
 | cons q post IH=>
  intro pre acc o ρ hk hac h0 h2 h4 h7 h8 h9;have hg:=Qx hk;have hll:=QL hk;have hw1:=wr1 pre.length (by omega);have hlt:=QO hk;have hql:q∈l:=by rw[hk];simp
  have hqm:=hm q hql;have hq0:=hz q hql;have hc:=Uv t q.1 bs ht hqm.1;have hb: (acc.length+1)*64<=140737488355328:=NA (by simp at hac;omega);have hb2: (acc.length+1+1)*64<=140737488355328:=NA (by clear hb;simp at hac;omega);have hap: ∀x∈post,Qp q.1 x.1 < 0:=by
   intro x hx;have h1:=ha;rw[hk,ZU,UI,Yf]at h1;have h2:=(List.pairwise_append.1 h1).2.1;exact(VK.1 h2).1 x.1 (FL hx)
  have hpz: ∀x∈post,x.2≠0:=fun x hx=>hz x (by rw[hk];simp[hx]);have hf:Qf t ++ [.int .i64 m]=Zq (t,m):=rfl;have hanti:=WN t q.1;rw[Qg f257l0.eq_1];by_cases c1:Qp q.1 t < 0
  ·have e1: ¬Qp t q.1 < 0:=by clear hb hb2;omega
   have e2: ¬Qp t q.1=0:=by clear hb hb2;omega
   have h3:=fun ρ=>IH (pre ++ [q]) (acc ++ [q]) o ρ (by rw[hk];simp) (by clear hb hb2;simp at hac ⊢;omega);simp only[ZR,WV,X3]at h3;simp only[Xd,c1,Zl];simp[h0,h2,h4,h7,h8,h9,hg,hlt,hw1,hc,hq0,e1,e2,hb,TW,TV];refine h3 _ ?_ ?_ ?_ ?_ ?_ ?_ <;> simp[h0,h2,h4,h8]
  ·by_cases c2:Qp q.1 t=0
   ·have e1: ¬Qp t q.1 < 0:=by clear hb hb2;omega
    have e2:Qp t q.1=0:=by clear hb hb2;omega
    have hqt:=Y7 _ _ c2;have hw2:IntKind.i64.wrap (q.2+m)=q.2+m:=Zb (by clear hb hb2;omega) (by clear hb hb2;omega);have hpo: ∀x∈post,x.2≠0/\Qp t x.1≠0:=fun x hx=>⟨hpz x hx,by have:=hap x hx;rw[hqt]at this;clear hb hb2;omega⟩;have hf2: (Zq q).take 4 ++ [.int .i64 (q.2+m)]=Zq (q.1,q.2+m):=by simp[Zq]
    by_cases c3:q.2+m=0
    ·have h3:=fun ρ=>LX l t m bs (by clear hb hb2;omega) (fun q hq=>(hm q hq).1) ht post (pre ++ [q]) acc o ρ (by rw[hk];simp) (by clear hb hb2;simp at hac;omega) hpo;simp only[Xd,c1,c2,c3,Zl,Zd];have hf3: (Zq q).take 4 ++ [.int .i64 0]=Zq (q.1,0):=by simp[Zq]
     simp[h0,h2,h4,h7,h8,h9,hg,hlt,hw1,hw2,hc,e2,c3,TW,TV];refine h3 _ ?_ ?_ ?_ ?_ ?_ ?_ <;> simp[h0,h2,h4,h7]
    ·have h3:=fun ρ=>LX l t m bs (by clear hb hb2;omega) (fun q hq=>(hm q hq).1) ht post (pre ++ [q]) (acc ++ [(q.1,q.2+m)]) o ρ (by rw[hk];simp) (by clear hb hb2;simp at hac ⊢;omega) hpo;simp only[ZR,WV,X3]at h3;simp only[Xd,c1,c2,c3,Zl,Zd];have hf3:Qf q.1 ++ [.int .i64 (q.2+m)]=Zq (q.1,q.2+m):=rfl;simp[h0,h2,h4,h7,h8,h9,hg,hlt,hw1,hw2,hc,e2,c3,hb,hf3,TW,TV];refine h3 _ ?_ ?_ ?_ ?_ ?_ ?_ <;> simp[h0,h2,h4]
   ·have e1:Qp t q.1 < 0:=by clear hb hb2;omega
    have e2: ¬Qp t q.1=0:=by clear hb hb2;omega
    have hpo: ∀x∈post,x.2≠0/\Qp t x.1≠0:=fun x hx=>⟨hpz x hx,by have:=Xw e1 (hap x hx);clear hb hb2;omega⟩;have h3:=fun ρ=>LX l t m bs (by clear hb hb2;omega) (fun q hq=>(hm q hq).1) ht post (pre ++ [q]) (acc ++ [(t,m),q]) o ρ (by rw[hk];simp) (by clear hb hb2;simp at hac ⊢;omega) hpo;simp only[ZR,WV,X3]at h3;simp only[Xd,c1,c2,Zd];simp[h0,h2,h4,h7,h8,h9,hg,hlt,hw1,hc,hq0,e1,e2,hb,hb2,Pm,OI,hf,TW,TV];refine h3 _ ?_ ?_ ?_ ?_ ?_ ?_ <;> simp[h0,h2,h4]
def FY: ∀(l:Qj) (t:Tm) (n:Int),(Xd l t n).length<=l.length+1
 | [],_,_=>by simp[Xd]
 | p:: l,t,n=>by
  have:=FY l t n;simp only[Xd];split
  ·simp;omega
  ·split
   ·split <;> simp <;> omega
   ·simp
def SO: ∀{l:Qj} {t:Tm} {n:Int} {q:Pw},q∈Xd l t n->q∈l\/q=(t,n)\/∃m,(t,m)∈l/\q=(t,m+n)/\m+n≠0
 | [],t,n,q,h=>by simp[Xd]at h;exact .inr (.inl h)
 | p:: l,t,n,q,h=>by
  simp only[Xd]at h;split at h
  ·rcases ZS.1 h with h | h
   ·exact .inl (by simp[h])
   ·rcases SO h with h | h | ⟨m,h1,h2⟩
    ·exact .inl (by simp[h])
    ·exact .inr (.inl h)
    ·exact .inr (.inr ⟨m,by simp[h1],h2⟩)
  ·split at h
   ·rename_i hc;have he:=Y7 _ _ hc;split at h
    ·exact .inl (by simp[h])
    ·rename_i hz;rcases ZS.1 h with h | h
     ·exact .inr (.inr ⟨p.2,by rw[<- he];simp,by rw[<- he];exact h,hz⟩)
     ·exact .inl (by simp[h])
   ·rcases ZS.1 h with h | h
    ·exact .inr (.inl h)
    ·exact .inl h
def F3: ∀{l:Qj} {t:Tm} {n:Int},Asc (ZU l)->Asc (ZU (Xd l t n))
 | [],t,n,_=>by simp[Xd,ZU,Asc]
 | p:: l,t,n,h=>by
  have h':=h;simp only[ZU,Yf]at h';obtain⟨h1,h2⟩:=We.1 h';simp only[Xd];split
  ·rename_i c;simp only[ZU,Yf];refine We.2 ⟨fun y hy=> ?_,F3 h2⟩;obtain⟨q,hq,rfl⟩:=W8.1 hy;rcases SO hq with hq | rfl | ⟨m,hm,rfl,_⟩
   ·exact h1 _ (FL hq)
   ·exact c
   ·exact c
  ·split
   ·split
    ·exact h2
    ·simp only[ZU,Yf];exact h'
   ·rename_i c1 c2;simp only[ZU,Yf];have c3:Qp t p.1 < 0:=by have:=WN t p.1;omega
    refine We.2 ⟨fun y hy=> ?_,h'⟩;rcases ZS.1 hy with rfl | hy
    ·exact c3
    ·exact Xw c3 (h1 y hy)
structure Vz (l:List Pw) (b:Nat):Prop where
 asc:Asc (ZU l)
 nz:NZ l
 len:l.length<=b
 bd: ∀q∈l,q.1.mass < big/\ -(b:Int)<=q.2/\q.2<=b
def Km:Vz [] 0:=⟨Asc.nil,fun q h=>by simp at h,by simp,fun q h=>by simp at h⟩
def Vz.mono {l:Qj} {b c:Nat} (h:Vz l b) (hbc:b<=c):Vz l c:=⟨h.asc,h.nz,Uu h.len hbc,fun q hq=>by obtain⟨h1,h2,h3⟩:=h.bd q hq;exact⟨h1,by omega,by omega⟩⟩
def Vz.add {l:Qj} {b c:Nat} {t:Tm} {n:Int} (h:Vz l b) (ht:t.mass < big) (hn:n≠0) (h1: -(c:Int)<=n) (h2:n<=c):Vz (Xd l t n) (b+c):=by
 refine⟨F3 h.asc,?_,?_,?_⟩
 ·intro q hq;rcases SO hq with hq | rfl | ⟨m,hm,rfl,hz⟩
  ·exact h.nz q hq
  ·exact hn
  ·exact hz
 ·have:=FY l t n;have:=h.len;omega
 ·intro q hq;rcases SO hq with hq | rfl | ⟨m,hm,rfl,hz⟩
  ·obtain⟨a1,a2,a3⟩:=h.bd q hq;exact⟨a1,by omega,by omega⟩
  ·exact⟨ht,by simp;omega,by simp;omega⟩
  ·obtain⟨a1,a2,a3⟩:=h.bd _ hm;simp at a2 a3;exact⟨ht,by simp;omega,by simp;omega⟩
def uno (m:Int):Prop:=m=1\/m= -1
def uno.neg {m:Int} (h:uno m):uno (-m):=by rcases h with rfl | rfl <;> simp[uno]
def uno.ite {m:Int} (h:uno m) (c:Bool):uno (if c then -m else m):=by cases c <;> simp[h,h.neg]
def M9: ∀(t:Tm) (l:Qj) (m:Int) (b:Nat),t.mass < big->uno m->Vz l b->Vz (Vp l t m) (b+t.nodes):=by
 refine Yn ?_;intro k n s ks ih l m b hm hu h;have hne:=Wg (.mk k n s ks);have hme:=QF (.mk k n s ks);simp only[Zx,Z7]at hne hme;have hL: ∀(xs:Qe) (l:Qj) (m:Int) (b:Nat),(∀x∈xs,x∈ks)->uno m->Vz l b->Vz (VY l xs m) (b+QB xs):=by
  intro xs
  induction xs with
  | nil=>intro l m b _ _ h;simpa[VY,QB]using h
  | cons x xs IH=>
   intro l m b hx hu h;have h1:=ih x (hx x (by simp)) l m b (by have:=Q4 (hx x (by simp));omega) hu h;have h2:=IH _ m _ (fun y hy=>hx y (by simp[hy])) hu h1;simp only[VY,QB];rw[<- V6];exact h2
 rw[OQ];split
 ·have:=hL ks l _ b (fun x hx=>hx) (hu.ite ((Tm.mk k n s ks).name == INV)) h;exact this.mono (by omega)
 ·have:Vz (Xd l (.mk k n s ks) m) (b+1):=h.add (c:=1) hm (by rcases hu with rfl | rfl <;> simp) (by rcases hu with rfl | rfl <;> simp) (by rcases hu with rfl | rfl <;> simp);exact this.mono (by omega)
def CV {l:Qj} {t:Tm} {m:Int} {b:Nat} (o:Bool) (bs:Qa) (h:Vz l b) (hb:b < 40000000) (ht:t.mass < big) (hm: -100000000 < m/\m < 100000000):
  call tb 257 [.sl o 5 (QE l),.agg (Qf t),.int .i64 m] bs=some (.sl false 5 (QE (Xd l t m)),bs):=by
 have hl:=h.len;have hp:=fun ρ=>Qev l t m bs (by omega) (fun q hq=>by obtain⟨a1,a2,a3⟩:=h.bd q hq;exact⟨a1,by omega,by omega⟩) hm ht h.asc h.nz l [] [] false ρ rfl (by simp;omega);rw[zcc 257 rfl rfl];simp only[X3]at hp;simp[f257C];refine hp _ ?_ ?_ ?_ ?_ ?_ ?_ <;> simp[QE]
def Fw (l:Qj) (bs:Qa) (r:Out):Prop:=∃o,r=some (.sl o 5 (QE l),bs)
def Qcu (t:Tm) (bs:Qa) (hm:t.mass < big) (m:Int) (hu:uno m) (ih: ∀x∈t.kids,∀l b o,Vz l b->b+x.nodes < 40000000->Fw (Vp l x m) bs (call tb 256 [.sl o 5 (QE l),.agg (Qf x),.int .i64 m] bs)):
  ∀(post pre:Qe) (l:Qj) (b:Nat) (o:Bool) (ρ:Ql),t.kids=pre ++ post->Vz l b->b+QB post < 40000000->ρ 0= .sl o 5 (QE l)->ρ 2= .int .i64 m->ρ 4= .bx (Qf t)->ρ 7= .int .i64 pre.length->
  Fw (VY l post m) bs (R tb (.loop f256l0) ρ bs (Qq 0 (QH tb f256r0 (QP f256 bs)))):=by
 have hm2:=QF t;have hmb:=hm;unfold big at hm;intro post
 induction post with
 | nil=>
  intro pre l b o ρ hk hl hb h0 h2 h4 h7;simp only[QN]at hk;rw[<- hk]at h7;rw[Qg f256l0.eq_1];refine⟨false,?_⟩;simp[h0,h2,h4,h7,f256r0,VY]
 | cons x post IH=>
  intro pre l b o ρ hk hl hb h0 h2 h4 h7;have hg:=Qx hk;have hll:=QL hk;have hw1:=wr1 pre.length (by omega);have hlt:=QO hk;have hxk:x∈t.kids:=by rw[hk];simp
  simp only[QB]at hb;obtain⟨o1,hc⟩:=ih x hxk l b false hl (by omega);have h3:=fun ρ=>IH (pre ++ [x]) (Vp l x m) (b+x.nodes) o1 ρ (by rw[hk];simp) (M9 x l m b (by have:=Q4 hxk;omega) hu hl) (by omega);rw[Qg f256l0.eq_1];simp[h0,h2,h4,h7,hg,hlt,hw1,hc,Qk,VY];refine h3 _ ?_ ?_ ?_ ?_ <;> simp[h2,h4]
def Qhk: ∀(t:Tm) (bs:Qa) (m:Int) (l:Qj) (b:Nat) (o:Bool),t.mass < big->uno m->Vz l b->b+t.nodes < 40000000->Fw (Vp l t m) bs (call tb 256 [.sl o 5 (QE l),.agg (Qf t),.int .i64 m] bs):=by
 refine Yn ?_;intro k n s ks ih bs m l b o hm hu hl hb;have hme:=QF (.mk k n s ks);have hne:=Wg (.mk k n s ks);simp only[Zx,Z7]at hne hme;have hsp:=Pz (.mk k n s ks) bs;rw[zcc 256 rfl rfl,OQ];cases hs:W6 (.mk k n s ks)
 ·have hc:=CV (t:= .mk k n s ks) (m:=m) false bs hl (by omega) hm (by rcases hu with rfl | rfl <;> simp);refine⟨false,?_⟩;simp[f256C,hsp,hs,hc]
 ·have h2:=fun m hu ρ=>Qcu (.mk k n s ks) bs hm m hu (fun x hx l b o hl hb=>ih x hx bs m l b o (by have:=Q4 hx;simp at this;omega) hu hl hb) ks [] l b false ρ rfl hl (by omega);cases hi:n == INV
  ·have h3:=h2 m hu;simp only[INV]at hi;simp[f256C,hsp,hs,hi,INV];refine h3 _ ?_ ?_ ?_ ?_ <;> simp
  ·have h3:=h2 (-m) hu.neg;have hw:IntKind.i64.wrap (-m)= -m:=by rcases hu with rfl | rfl <;> rfl
   simp only[INV]at hi;simp[f256C,hsp,hs,hi,hw,INV];refine h3 _ ?_ ?_ ?_ ?_ <;> simp
def BT (B0:Qa) (l:Qj) (ok:Bool) (r:Out):Prop:=∃v B,r=some (.tup [v,.bool ok],B)/\PS B0 B v (if ok then l else [])
def Up {B0 B:Qa} {v:AV} {l:Qj} (h:PS B0 B v l): ∃id sz,v= .gs id 0 sz l.length:=by
 obtain⟨M,id,sz,_,rfl,_⟩:=h;exact⟨id,sz,rfl⟩
def Lw {B0 B:Qa} {v:AV} {l:Qj} (h:PS B0 B v l):PS B0 B (.gs 0 0 0 0) []:=by
 obtain⟨M,id,sz,rfl,_,_⟩:=h;exact⟨M,0,0,rfl,rfl,.inl ⟨rfl,rfl,rfl⟩⟩
def QeR (t:Tm) (B0:Qa) (hm:t.mass < big) (m:Int) (hu:uno m) (ih: ∀x∈t.kids,∀B v l b,PS B0 B v l->Vz l b->b+x.nodes < 40000000->BT B0 (Vp l x m) (arB x) (call tb 187 [v,.agg (Qf x),.int .i64 m] B)) (K:Qa):
  ∀(post pre:Qe) (l:Qj) (b:Nat) (B:Qa) (v:AV) (ρ:Ql),t.kids=pre ++ post->PS B0 B v l->Vz l b->b+QB post < 40000000->ρ 0=v->ρ 2= .int .i64 m->ρ 52= .sl false 4 (Qb t.kids)->ρ 53= .int .i64 t.kids.length->ρ 54= .int .i64 pre.length->
  BT B0 (VY l post m) (arL post) (R tb (.loop f187l0) ρ B (Qq 1 (QH tb f187r0 (QP f187 K)))):=by
 have hm2:=QF t;have hmb:=hm;unfold big at hm;intro post
 induction post with
 | nil=>
  intro pre l b B v ρ hk hps hl hb h0 h2 h52 h53 h54;simp only[QN]at hk;rw[<- hk]at h54;obtain⟨id,sz,rfl⟩:=Up hps;rw[Qg f187l0.eq_1];refine⟨_,B,?_,by simpa[VY,arL]using hps⟩;simp[h0,h2,h52,h53,h54,f187r0,VY,arL]
 | cons x post IH=>
  intro pre l b B v ρ hk hps hl hb h0 h2 h52 h53 h54;have hg:=Qx hk;have hll:=QL hk;have hw1:=wr1 pre.length (by omega);have hlt:=QO hk;have hxk:x∈t.kids:=by rw[hk];simp
  simp only[QB]at hb;obtain⟨v2,B2,hc,hps2⟩:=ih x hxk B v l b hps hl (by omega);obtain⟨id,sz,rfl⟩:=Up hps;obtain⟨id2,sz2,rfl⟩:=Up hps2;rw[Qg f187l0.eq_1];cases ha:arB x
  ·rw[ha]at hc hps2;refine⟨.gs 0 0 0 0,B2,?_,by simpa[arL,ha]using Lw hps2⟩;simp only[Z3,Zd]at hc;simp[h0,h2,h52,h53,h54,hg,hlt,hc,Qk,arL,ha]
  ·rw[ha]at hc hps2;simp only[Zl]at hc hps2;have h3:=fun ρ=>IH (pre ++ [x]) (Vp l x m) (b+x.nodes) B2 _ ρ (by rw[hk];simp) hps2 (M9 x l m b (by have:=Q4 hxk;omega) hu hl) (by omega);have e1:VY l (x:: post) m=VY (Vp l x m) post m:=by simp[VY]
   have e2:arL (x:: post)=arL post:=by simp[arL,ha]
   rw[e1,e2];simp[h0,h2,h52,h53,h54,hg,hlt,hw1,hc,Qk];refine h3 _ ?_ ?_ ?_ ?_ ?_ <;> simp[h2,h52,h53]
def Qg3: ∀(t:Tm) (B0 B:Qa) (v:AV) (l:Qj) (m:Int) (b:Nat),t.mass < big->uno m->PS B0 B v l->Vz l b->b+t.nodes < 40000000->BT B0 (Vp l t m) (arB t) (call tb 187 [v,.agg (Qf t),.int .i64 m] B):=by
 refine Yn ?_;intro k n s ks ih B0 B v l m b hm hu hps hl hb;have hme:=QF (.mk k n s ks);have hne:=Wg (.mk k n s ks);simp only[Zx,Z7]at hne hme;have hsp:=MF (.mk k n s ks) B;obtain⟨id,sz,rfl⟩:=Up hps;rw[zcc 187 rfl rfl,OQ,QcF];cases hs:W6 (.mk k n s ks)
 ·obtain⟨v2,B2,hc,hps2⟩:=CR (p:=(.mk k n s ks,m)) hps (by have:=hl.len;omega) (fun q hq=>by obtain⟨a1,a2,a3⟩:=hl.bd q hq;exact⟨a1,by omega,by omega⟩) hm (by rcases hu with rfl | rfl <;> simp) hl.asc;obtain⟨id2,sz2,rfl⟩:=Up hps2;have hf:Qf (.mk k n s ks)++ [.int .i64 m]=Zq (.mk k n s ks,m):=rfl;refine⟨_,B2,?_,by simpa using hps2⟩;simp[f187C,hsp,hs,Pm,OI,hf,hc]
 ·have h2:=fun m hu ρ=>QeR (.mk k n s ks) B0 hm m hu (fun x hx B v l b hps hl hb=>ih x hx B0 B v l m b (by have:=Q4 hx;simp at this;omega) hu hps hl hb) B ks [] l b B _ ρ rfl hps hl (by omega);obtain⟨rfl,hn⟩:=DR hs;simp only[Z7]at hn;simp only[Zx]at h2;simp only[OL,K4,Zl];rcases hn with rfl | rfl | rfl
  ·have h3:=h2 m hu;by_cases d:ks.length < 2
   ·have d': (ks.length:Int) < 2:=by omega
    have hc:WO (.mk 3 MUL s ks)=false:=by simp[WO,d]
    refine⟨.gs 0 0 0 0,B,?_,by simpa[hc]using Lw hps⟩;simp only[hc];simp[MUL]at hsp hs hc;simp[f187C,hsp,hs,MUL,d']
   ·have d': ¬(ks.length:Int) < 2:=by omega
    have hc:WO (.mk 3 MUL s ks)=true:=by simp[WO,d];simp[MUL,INV,ONE]
    have e: ((Tm.mk 3 MUL s ks).name == INV)=false:=by simp[MUL,INV]
    rw[e];simp only[hc,VL,Zx,Z3,Zd];simp[MUL]at hsp hs;simp[f187C,hsp,hs,MUL,d'];refine h3 _ ?_ ?_ ?_ ?_ ?_ <;> simp
  ·have h3:=h2 (-m) hu.neg;have hw:IntKind.i64.wrap (-m)= -m:=by rcases hu with rfl | rfl <;> rfl
   by_cases d:ks.length=1
   ·have d': (ks.length:Int)=1:=by omega
    have hc:WO (.mk 3 INV s ks)=true:=by simp[WO,d];simp[MUL,INV,ONE]
    have e: ((Tm.mk 3 INV s ks).name == INV)=true:=by simp
    rw[e];simp only[hc,VL,Zx,Zl];simp[INV]at hsp hs;simp[f187C,hsp,hs,INV,d',hw];refine h3 _ ?_ ?_ ?_ ?_ ?_ <;> simp[d]
   ·have d': ¬(ks.length:Int)=1:=by omega
    have hc:WO (.mk 3 INV s ks)=false:=by simp[WO,d]
    refine⟨.gs 0 0 0 0,B,?_,by simpa[hc]using Lw hps⟩;simp only[hc];simp[INV]at hsp hs hc;simp[f187C,hsp,hs,INV,d']
  ·have h3:=h2 m hu;by_cases d:ks=[]
   ·subst d;have hc:WO (.mk 3 ONE s [])=true:=by simp[WO];simp[MUL,INV,ONE]
    have e: ((Tm.mk 3 ONE s []).name == INV)=false:=by simp[ONE,INV]
    rw[e];simp only[hc,VL,Zx,Z3,Zd];simp[ONE]at hsp hs;simp[f187C,hsp,hs,ONE];refine h3 _ ?_ ?_ ?_ ?_ ?_ <;> simp
   ·have d0: ¬ks.length=0:=fun e=>d (YE e);have d': ¬(ks.length:Int)=0:=by omega
    have hc:WO (.mk 3 ONE s ks)=false:=by simp[WO,d]
    refine⟨.gs 0 0 0 0,B,?_,by simpa[hc]using Lw hps⟩;simp only[hc];simp[ONE]at hsp hs hc;simp[f187C,hsp,hs,ONE,d,d']
def ofE (t:Tm):Int:=if Zg t≠0 then Zg t else if arB t then(if 200 < (Vp [] t 1).length then 3 else 0)else 6
def ofP (t:Tm):Qj:=if ofE t=0 then Vp [] t 1 else []
def RQ (t:Tm) (bs:Qa) (hm:t.mass < 30000000):call tb 253 [.agg (Qf t)] bs=some (.tup [.sl false 5 (QE (ofP t)),.int .i64 (ofE t)],bs):=by
 have hmb:t.mass < big:=by unfold big;omega
 have hnm:=Yx t;have h1:=WM t bs hmb;have h2:=Az t bs hmb;obtain⟨o,h3⟩:=Qhk t bs 1 [] 0 true hmb (.inl rfl) Km (by omega);have h3':call tb 256 [.sl true 5 [],.agg (Qf t),.int .i64 1] bs=some (.sl o 5 (QE (Vp [] t 1)),bs):=h3;rw[zcc 253 rfl rfl];by_cases hv:Zg t=0
 ·cases ha:arB t
  ·simp[f253C,h1,h2,hv,ha,ofE,ofP,QE]
  ·by_cases hl:200 < (Vp [] t 1).length
   ·have hl': (200:Int) < ((Vp [] t 1).length:Int):=by omega
    simp[f253C,h1,h2,h3',hv,ha,ofE,ofP,hl,hl'];simp[QE]
   ·have hl': ¬(200:Int) < ((Vp [] t 1).length:Int):=by omega
    simp[f253C,h1,h2,h3',hv,ha,ofE,ofP,hl,hl']
 ·simp[f253C,h1,hv,ofE,ofP,QE]
def QnM {B0 B:Qa} {v:AV} {l:Qj} (h:PS B0 B v l) (n:Nat): ∃o M2,∀ρ:Ql,ρ n=v->Yk {env:=ρ,bs:=B} n 5=some (.sl o 5 (QE l),{env:=upd ρ n .undef,bs:=B0 ++ M2}):=by
 obtain⟨M,id,sz,rfl,rfl,hc⟩:=h;rcases hc with⟨rfl,rfl,rfl⟩ | ⟨rfl,hid,t,hb,hne⟩
 ·exact⟨true,M,fun ρ hn=>by simp[Yk,hn,QE]⟩
 ·by_cases hl:l.length=0
  ·have:l=[]:=YE hl;subst this;exact⟨false,M,fun ρ hn=>by simp[Yk,hn,QE]⟩
  ·refine⟨true,M.set (id - B0.length) [],fun ρ hn=> ?_⟩;have hle:0+l.length*5<=(QW l ++ t).length:=by rw[Zo,Xu];omega
   have hch:ZX (QW l ++ t) 0 5 l.length=QE l:=Wh (f:=Zq) (k:=5) W3 VO l t;simp only[Yk,hn];rw[Qn ⟨trivial,by omega⟩,Qm hl,hb];simp only[QC];rw[Qn hle,hch,Wj hid];rfl
def RP (t:Tm) (bs:Qa) (hm:t.mass < 30000000):call tb 186 [.agg (Qf t)] bs=some (.tup [.sl false 5 (QE (ofP t)),.int .i64 (ofE t)],bs):=by
 have hmb:t.mass < big:=by unfold big;omega
 have hnm:=Yx t;have h1:=Ui t bs hmb;obtain⟨v,B,hc,hps⟩:=Qg3 t bs bs (.gs 0 0 0 0) [] 1 0 hmb (.inl rfl) (Qdv bs) Km (by omega);obtain⟨id,sz,rfl⟩:=Up hps;obtain⟨M,hM⟩: ∃M,B=bs ++ M:=by obtain⟨M,_,_,h,_⟩:=hps;exact⟨M,h⟩
 have hgn:=Nm (Vp [] t 1);rw[zcc 186 rfl rfl];by_cases hv:Zg t=0
 ·cases ha:arB t
  ·rw[ha]at hc hps;simp only[Z3,Zd]at hc;simp[f186C,h1,hv,hc,ha,ofE,ofP,QE,hM]
  ·rw[ha]at hc hps;simp only[Zl]at hc hps;by_cases hl:200 < (Vp [] t 1).length
   ·have hl': (200:Int) < ((Vp [] t 1).length:Int):=by omega
    simp[f186C,h1,hv,hc,ha,ofE,ofP,hl,hl',hM];simp[QE]
   ·have hl': ¬(200:Int) < ((Vp [] t 1).length:Int):=by omega
    obtain⟨o,M2,hf⟩:=QnM hps 24;simp[f186C,h1,hv,hc,ha,ofE,ofP,hl,hl',hf]
 ·simp[f186C,h1,hv,ofE,ofP,QE]
def gtO (prev:Option Tm) (t:Tm):Bool:=match prev with
 | none=>true
 | some q=>decide (Qp q t < 0)
def XV (n:Int):Bool:=decide (n < -1000) || decide (1000 < n)
def vPL:Option Tm->Qj->Int
 | _,[]=>0
 | prev,p:: r=>if Zg p.1≠0 then Zg p.1 else if W6 p.1 then 1 else if p.2=0\/XV p.2=true then 7 else if gtO prev p.1 then vPL (some p.1) r else 5
def ZY (l:Qj):Int:=if 200 < l.length then 3 else vPL none l
def Jw (l:Qj):Option Tm:=l.getLast?.map (·.1)
def I5:Jw []=none:=rfl
def Ob (l:Qj) (p:Pw):Jw (l ++ [p])=some p.1:=by simp[Jw]
def FF:=@List.eq_nil_or_concat
def FG:=@List.concat_eq_append
def QaL (l:Qj) (bs:Qa) (hl:l.length < 100000000) (hm: ∀q∈l,q.1.mass < big):
  ∀(post pre:Qj) (o:Bool) (ρ:Ql),l=pre ++ post->ρ 0= .sl o 5 (QE l)->ρ 9= .sl false 5 (QE l)->ρ 10= .int .i64 l.length->ρ 11= .int .i64 pre.length->
  R tb (.loop f197l0) ρ bs (Qq 0 (QH tb f197r0 (QP f197 bs)))=some (.int .i64 (vPL (Jw pre) post),bs):=by
 intro post
 induction post with
 | nil=>
  intro pre o ρ hk h0 h9 h10 h11;simp only[QN]at hk;rw[<- hk]at h11;rw[Qg f197l0.eq_1];simp[h0,h9,h10,h11,f197r0,vPL]
 | cons p post IH=>
  intro pre o ρ hk h0 h9 h10 h11;have hg:=Qx hk;have hll:=QL hk;have hw1:=wr1 pre.length (by omega);have hlt:=QO hk;have hmp:=hm p (by rw[hk];simp);have h1:=Ui p.1 bs hmp;have h2:=MF p.1 bs;have h3:=fun ρ=>IH (pre ++ [p]) o ρ (by rw[hk];simp);rw[Ob]at h3;rw[Qg f197l0.eq_1];by_cases c1:Zg p.1=0
  ·cases c2:W6 p.1
   ·by_cases c3:p.2=0
    ·simp[h0,h9,h10,h11,hg,hlt,h1,h2,c1,c2,c3,vPL]
    ·by_cases c4:p.2 < -1000
     ·simp[h0,h9,h10,h11,hg,hlt,h1,h2,c1,c2,c3,c4,vPL,XV]
     ·by_cases c5:1000 < p.2
      ·simp[h0,h9,h10,h11,hg,hlt,h1,h2,c1,c2,c3,c4,c5,vPL,XV]
      ·rcases FF pre with rfl | ⟨pre2,q,rfl⟩
       ·have h11':ρ 11= .int .i64 0:=h11;have hg':l[0]? =some p:=hg;have hlt':0 < l.length:=by omega
        have hw0:IntKind.i64.wrap 1=1:=rfl;clear h11 hg hlt hw1;simp[-getElem?_pos,h0,h9,h10,h11',hg',hlt',hw0,h1,h2,c1,c2,c3,c4,c5,vPL,XV,I5,gtO];refine h3 _ ?_ ?_ ?_ ?_ <;> simp[h0,h9,h10]
       ·have hg2:l[pre2.length]? =some q:=by rw[hk];simp
        have hq:=hm q (by rw[hk];simp);have h4:=call_Compare q.1 p.1 bs hq hmp;have hp0: (0:Int) < (pre2.length:Int)+1:=by omega
        have hp1: (0:Int)<=(pre2.length:Int)+1:=by omega
        have hp2: ((pre2.length:Int)+1).toNat=pre2.length+1:=by omega
        have hw2:IntKind.i64.wrap (pre2.length:Int)=(pre2.length:Int):=Zb (by simp at hll;omega) (by simp at hll;omega);simp only[FG]at *;rw[Ob];simp only[Zo,Tu,Int.natCast_add,Int.natCast_one]at h11 hg hlt hw1 h3;by_cases c6:Qp q.1 p.1 < 0
        ·have c6': ¬0<=Qp q.1 p.1:=by omega
         simp[h0,h9,h10,h11,hg,hg2,hlt,hw1,hw2,hp0,hp1,hp2,h1,h2,h4,c1,c2,c3,c4,c5,c6,c6',vPL,XV,gtO];refine h3 _ ?_ ?_ ?_ ?_ <;> simp[h0,h9,h10]
        ·have c6':0<=Qp q.1 p.1:=by omega
         simp[h0,h9,h10,h11,hg,hg2,hlt,hw1,hw2,hp0,hp1,hp2,h1,h2,h4,c1,c2,c3,c4,c5,c6,c6',vPL,XV,gtO]
   ·simp[h0,h9,h10,h11,hg,hlt,h1,h2,c1,c2,vPL]
  ·simp[h0,h9,h10,h11,hg,hlt,h1,h2,c1,vPL]
def OO (l:Qj) (o:Bool) (bs:Qa) (hl:l.length < 100000000) (hm: ∀q∈l,q.1.mass < big):call tb 197 [.sl o 5 (QE l)] bs=some (.int .i64 (ZY l),bs):=by
 have h:=fun ρ=>QaL l bs hl hm l [] false ρ rfl;rw[zcc 197 rfl rfl];by_cases c:200 < l.length
 ·have c': (200:Int) < (l.length:Int):=by omega
  simp[f197C,c,c',ZY]
 ·have c': ¬(200:Int) < (l.length:Int):=by omega
  simp[f197C,c,c',ZY];refine h _ ?_ ?_ ?_ ?_ <;> simp
def DZ (l:Qj) (bs:Qa) (hl:l.length < 100000000) (hm: ∀q∈l,q.1.mass < big):
  ∀(post pre:Qj) (o:Bool) (ρ:Ql),l=pre ++ post->ρ 0= .sl o 5 (QE l)->ρ 3= .int .i64 pre.length->
  R tb (.loop f259l0) ρ bs (Qq 0 (QH tb f259r0 (QP f259 bs)))=some (.int .i64 (vPL (Jw pre) post),bs):=by
 intro post
 induction post with
 | nil=>
  intro pre o ρ hk h0 h3;simp only[QN]at hk;rw[<- hk]at h3;rw[Qg f259l0.eq_1];simp[h0,h3,f259r0,vPL]
 | cons p post IH=>
  intro pre o ρ hk h0 h3;have hg:=Qx hk;have hll:=QL hk;have hw1:=wr1 pre.length (by omega);have hlt:=QO hk;have hmp:=hm p (by rw[hk];simp);have h1:=WM p.1 bs hmp;have h2:=Pz p.1 bs;have hh:=fun ρ=>IH (pre ++ [p]) o ρ (by rw[hk];simp);rw[Ob]at hh;rw[Qg f259l0.eq_1];by_cases c1:Zg p.1=0
  ·cases c2:W6 p.1
   ·by_cases c3:p.2=0
    ·simp[h0,h3,hg,hlt,h1,h2,c1,c2,c3,vPL]
    ·by_cases c4:p.2 < -1000
     ·simp[h0,h3,hg,hlt,h1,h2,c1,c2,c3,c4,vPL,XV]
     ·by_cases c5:1000 < p.2
      ·simp[h0,h3,hg,hlt,h1,h2,c1,c2,c3,c4,c5,vPL,XV]
      ·rcases FF pre with rfl | ⟨pre2,q,rfl⟩
       ·have h3':ρ 3= .int .i64 0:=h3;have hg':l[0]? =some p:=hg;have hlt':0 < l.length:=by omega
        have hw0:IntKind.i64.wrap 1=1:=rfl;clear h3 hg hlt hw1;simp[-getElem?_pos,h0,h3',hg',hlt',hw0,h1,h2,c1,c2,c3,c4,c5,vPL,XV,I5,gtO];refine hh _ ?_ ?_ <;> simp[h0]
       ·have hg2:l[pre2.length]? =some q:=by rw[hk];simp
        have hq:=hm q (by rw[hk];simp);have h4:=Uv q.1 p.1 bs hq hmp;have hp0: (0:Int) < (pre2.length:Int)+1:=by omega
        have hp1: (0:Int)<=(pre2.length:Int)+1:=by omega
        have hp2: ((pre2.length:Int)+1).toNat=pre2.length+1:=by omega
        have hw2:IntKind.i64.wrap (pre2.length:Int)=(pre2.length:Int):=Zb (by simp at hll;omega) (by simp at hll;omega);simp only[FG]at *;rw[Ob];simp only[Zo,Tu,Int.natCast_add,Int.natCast_one]at h3 hg hlt hw1 hh;by_cases c6:Qp q.1 p.1 < 0
        ·have c6': ¬0<=Qp q.1 p.1:=by omega
         simp[h0,h3,hg,hg2,hlt,hw1,hw2,hp0,hp1,hp2,h1,h2,h4,c1,c2,c3,c4,c5,c6,c6',vPL,XV,gtO];refine hh _ ?_ ?_ <;> simp[h0]
        ·have c6':0<=Qp q.1 p.1:=by omega
         simp[h0,h3,hg,hg2,hlt,hw1,hw2,hp0,hp1,hp2,h1,h2,h4,c1,c2,c3,c4,c5,c6,c6',vPL,XV,gtO]
   ·simp[h0,h3,hg,hlt,h1,h2,c1,c2,vPL]
  ·simp[h0,h3,hg,hlt,h1,h2,c1,vPL]
def OP (l:Qj) (o:Bool) (bs:Qa) (hl:l.length < 100000000) (hm: ∀q∈l,q.1.mass < big):call tb 259 [.sl o 5 (QE l)] bs=some (.int .i64 (ZY l),bs):=by
 have h:=fun ρ=>DZ l bs hl hm l [] false ρ rfl;rw[zcc 259 rfl rfl];by_cases c:200 < l.length
 ·have c': (200:Int) < (l.length:Int):=by omega
  simp[f259C,c,c',ZY]
 ·have c': ¬(200:Int) < (l.length:Int):=by omega
  simp[f259C,c,c',ZY];refine h _ ?_ ?_ <;> simp
def JR: ∀(l:Qj) (prev:Option Tm),vPL prev l=0->(∀q∈l,Zg q.1=0/\W6 q.1=false/\q.2≠0/\ -1000<=q.2/\q.2<=1000)/\Asc (ZU l)/\(∀a,prev=some a->∀q∈l,Qp a q.1 < 0)
 | [],prev,_=>⟨fun q h=>by simp at h,Asc.nil,fun a _ q h=>by simp at h⟩
 | p:: r,prev,h=>by
  simp only[vPL]at h;split at h
  ·rename_i c;exact absurd h c
  rename_i c1;split at h
  ·cases h
  rename_i c2;split at h
  ·cases h
  rename_i c3;split at h
  ·rename_i c4;obtain⟨h1,h2,h3⟩:=JR r (some p.1) h;have hpr:=h3 p.1 rfl;refine⟨fun q hq=> ?_,?_,?_⟩
   ·rcases ZS.1 hq with rfl | hq
    ·simp[XV]at c3;exact⟨by simpa using c1,by simpa using c2,c3.1,c3.2.1,c3.2.2⟩
    ·exact h1 q hq
   ·simp only[ZU,Yf];refine We.2 ⟨fun y hy=> ?_,h2⟩;obtain⟨q,hq,rfl⟩:=W8.1 hy;exact hpr q hq
   ·intro a ha q hq;subst ha;have c5:Qp a p.1 < 0:=by simpa[gtO]using c4
    rcases ZS.1 hq with rfl | hq
    ·exact c5
    ·exact Xw c5 (hpr q hq)
  ·cases h
def Ur {l:Qj} (h:ZY l=0) (hm: ∀q∈l,q.1.mass < big):Vz l 1000/\l.length<=200/\∀q∈l,Zg q.1=0/\W6 q.1=false:=by
 unfold ZY at h;split at h
 ·cases h
 ·obtain⟨h1,h2,_⟩:=JR l none h;exact⟨⟨h2,fun q hq=>(h1 q hq).2.2.1,by omega,fun q hq=>⟨hm q hq,(h1 q hq).2.2.2.1,(h1 q hq).2.2.2.2⟩⟩,by omega,fun q hq=>⟨(h1 q hq).1,(h1 q hq).2.1⟩⟩
def TM (t:Tm):Tm:= .mk 3 INV 0 [t]
def WT (l:Qj):Qe:=(l.map fun p=>List.replicate p.2.toNat p.1).flatten
def Vd (l:Qj):Qe:=(l.map fun p=>List.replicate (-p.2).toNat (TM p.1)).flatten
def Ye (l:Qj):Qe:=WT l ++ Vd l
def Z8:Qe->Tm
 | []=> .mk 3 ONE 0 []
 | [p]=>p
 | p:: q:: r=> .mk 3 MUL 0 (p:: q:: r)
def Yl (l:Qj):Tm×Int:=
 if ZY l≠0 then(QG,ZY l)else if 8 < (Ye l).length then(QG,3)else if Zg (Z8 (Ye l))≠0 then(QG,Zg (Z8 (Ye l)))else(Z8 (Ye l),0)
def Dp (a:Qj) (p:Pw):WT (a ++ [p])=WT a ++ List.replicate p.2.toNat p.1:=by simp[WT]
def Dh (a:Qj) (p:Pw):Vd (a ++ [p])=Vd a ++ List.replicate (-p.2).toNat (TM p.1):=by simp[Vd]
def Dq {l:Qj} (h: ∀q∈l,q.2<=8): (WT l).length<=8*l.length:=by
 induction l with
 | nil=>simp[WT]
 | cons p l ih=>
  have h1:=ih fun q hq=>h q (by simp[hq]);have h2:=h p (by simp);simp only[WT,Yf,Tw,Zo,OC,ZL]at h1 ⊢;omega
def Di {l:Qj} (h: ∀q∈l,-8<=q.2): (Vd l).length<=8*l.length:=by
 induction l with
 | nil=>simp[Vd]
 | cons p l ih=>
  have h1:=ih fun q hq=>h q (by simp[hq]);have h2:=h p (by simp);simp only[Vd,Yf,Tw,Zo,OC,ZL]at h1 ⊢;omega
def Ds {l:Qj} {p:Pw} (h:p∈l):p.2.toNat<=(WT l).length:=by
 induction l with
 | nil=>simp at h
 | cons q l ih=>
  simp only[WT,Yf,Tw,Zo,OC]at ih ⊢;rcases ZS.1 h with rfl | h
  ·omega
  ·have:=ih h;omega
def Dj {l:Qj} {p:Pw} (h:p∈l): (-p.2).toNat<=(Vd l).length:=by
 induction l with
 | nil=>simp at h
 | cons q l ih=>
  simp only[Vd,Yf,Tw,Zo,OC]at ih ⊢;rcases ZS.1 h with rfl | h
  ·omega
  ·have:=ih h;omega
def J4 (n:Qu) (ks:Qe) (o:Bool) (bs:Qa):call tb 198 [.str n,.sl o 4 (Qb ks)] bs=some (.agg (Qf (.mk 3 n 0 ks)),bs):=by
 rw[zcc 198 rfl rfl];simp[f198,f198C,UV]
def Ly {k:Nat} (acc:Qe) (x:Tm): (acc ++ [x])++ List.replicate k x=acc ++ List.replicate (k+1) x:=by simp[OG]
def QjA {p:Pw} {bs:Qa} (hp:p.1.mass < big) (hN: -8<=p.2/\p.2<=8) (c:AC) (K:Kn) (X:Out): ∀(k:Nat) (acc:Qe) (i:Nat) (ρ:Ql),i+k=p.2.toNat->acc.length+k < 100000000->ρ 5= .sl true 4 (Qb acc)->ρ 8= .bx (Zq p)->ρ 34= .int .i64 p.2->ρ 35= .int .i64 i->
  (∀ρ':Ql,ρ' 5= .sl true 4 (Qb (acc ++ List.replicate k p.1))->(∀j,j < 34->j≠5->ρ' j=ρ j)->R tb c ρ' bs K=X)->
  R tb (.loop f196l0) ρ bs (Qq 2 (QH tb c K))=X:=by
 intro k
 induction k with
 | zero=>
  intro acc i ρ hi hl h5 h8 h34 h35 h;have hn: ¬(i:Int) < p.2:=by omega
  rw[Qg f196l0.eq_1];simp[h5,h8,h34,h35,hn];apply h
  ·simp[h5]
  ·intro j hj h5j;have:j≠36:=by omega
   simp[this]
 | succ k IH=>
  intro acc i ρ hi hl h5 h8 h34 h35 h;have hn: (i:Int) < p.2:=by omega
  have hw1:IntKind.i64.wrap ((i:Int)+1)=((i+1:Nat):Int):=by rw[Zb (by omega) (by omega)];omega
  have hb: (acc.length+1)*56<=140737488355328:=WI (by omega);have hc:=S9 p.1 bs hp;rw[Qg f196l0.eq_1];simp[h5,h8,h34,h35,hn,hw1,hb,hc,ZV,ZB];refine IH (acc ++ [p.1]) (i+1) _ (by omega) (by simp;omega) ?_ ?_ ?_ ?_ ?_
  ·simp
  ·simp[h8]
  ·simp[h34]
  ·simp
  ·intro ρ' g5 gj;rw[Ly]at g5;refine h ρ' g5 fun j hj h5j=> ?_;rw[gj j hj h5j];have e1:j≠35:=by omega
   have e2:j≠36:=by omega
   have e3:j≠37:=by omega
   have e4:j≠38:=by omega
   have e5:j≠39:=by omega
   have e6:j≠40:=by omega
   have e7:j≠41:=by omega
   have e8:j≠42:=by omega
   have e9:j≠43:=by omega
   simp[*]
def QjB {p:Pw} {bs:Qa} (hp:p.1.mass < big) (hN: -8<=p.2/\p.2<=8) (c:AC) (K:Kn) (X:Out): ∀(k:Nat) (acc:Qe) (i:Nat) (ρ:Ql),i+k=(-p.2).toNat->acc.length+k < 100000000->ρ 6= .sl true 4 (Qb acc)->ρ 8= .bx (Zq p)->ρ 46= .int .i64 (-p.2)->ρ 47= .int .i64 i->
  (∀ρ':Ql,ρ' 6= .sl true 4 (Qb (acc ++ List.replicate k (TM p.1)))->(∀j,j < 34->j≠6->ρ' j=ρ j)->R tb c ρ' bs K=X)->
  R tb (.loop f196l1) ρ bs (Qq 4 (Qq 1 (QH tb c K)))=X:=by
 intro k
 induction k with
 | zero=>
  intro acc i ρ hi hl h6 h8 h46 h47 h;have hn: ¬(i:Int) < -p.2:=by omega
  rw[Qg f196l1.eq_1];simp[h6,h8,h46,h47,hn];apply h
  ·simp[h6]
  ·intro j hj h5j;have:j≠48:=by omega
   simp[this]
 | succ k IH=>
  intro acc i ρ hi hl h6 h8 h46 h47 h;have hn: (i:Int) < -p.2:=by omega
  have hw1:IntKind.i64.wrap ((i:Int)+1)=((i+1:Nat):Int):=by rw[Zb (by omega) (by omega)];omega
  have hb: (acc.length+1)*56<=140737488355328:=WI (by omega);have hc:=S9 p.1 bs hp;have hc2:=J4 INV [p.1] false bs;simp only[INV]at hc2;rw[Qg f196l1.eq_1];simp[h6,h8,h46,h47,hn,hw1,hb,hc,hc2,ZV];rw[show Qf (Tm.mk 3 [105,110,118] 0 [p.1])=Qf (TM p.1)from rfl];simp[ZV,ZB];refine IH (acc ++ [TM p.1]) (i+1) _ (by omega) (by simp;omega) ?_ ?_ ?_ ?_ ?_
  ·simp[TM,INV]
  ·simp[h8]
  ·simp[h46]
  ·simp
  ·intro ρ' g6 gj;rw[Ly]at g6;refine h ρ' g6 fun j hj h5j=> ?_;rw[gj j hj h5j];have e1:j≠47:=by omega
   have e2:j≠48:=by omega
   have e3:j≠49:=by omega
   have e4:j≠50:=by omega
   have e5:j≠51:=by omega
   have e6:j≠52:=by omega
   have e7:j≠53:=by omega
   have e8:j≠54:=by omega
   have e9:j≠55:=by omega
   have e10:j≠56:=by omega
   have e11:j≠57:=by omega
   simp[*]
def QjD (l:Qj) (bs:Qa) (hv:ZY l=0) (hl: (Ye l).length < 100000000) (hm:Qt (Ye l) < big - 100) (ρ:Ql) (h2:ρ 2= .bx [.int .i64 0,.str [],.int .i64 0,.sl true 4 []]) (h5:ρ 5= .sl true 4 (Qb (WT l))) (h6:ρ 6= .sl true 4 (Qb (Vd l))):
  R tb f196r2 ρ bs (QP f196 bs)=some (Zm (Yl l),bs):=by
 have hc:=LC [WT l,Vd l] false bs (by simp) (by simpa[Ye]using hl);have hfl: [WT l,Vd l].flatten=Ye l:=by simp[Ye]
 rw[hfl]at hc;simp only[Ra,Yf,Wr]at hc;have ha:=J4 MUL (Ye l) false bs;have ha1:=J4 ONE [] true bs;simp only[MUL]at ha;simp only[ONE,Qb]at ha1;by_cases c8:8 < (Ye l).length
 ·have c8': (8:Int) < ((Ye l).length:Int):=by omega
  have e:Yl l=(QG,3):=by simp[Yl,hv,c8]
  rw[e];simp[f196r2,h2,h5,h6,hc,c8',Zm,Q8]
 ·have c8': ¬(8:Int) < ((Ye l).length:Int):=by omega
  have hpm: (Z8 (Ye l)).mass < big:=by
   unfold big at *
   match h:Ye l with
   | []=>simp[Z8,QF,Qt,ONE]
   | [p]=>rw[h]at hm;simp[Z8,Qt]at hm ⊢;omega
   | p:: q:: r=>rw[h]at hm c8;simp[Z8,QF,Qt,MUL]at hm c8 ⊢;omega
  have hvv:=Ui (Z8 (Ye l)) bs hpm;have e:Yl l=if Zg (Z8 (Ye l))≠0 then(QG,Zg (Z8 (Ye l)))else(Z8 (Ye l),0):=by simp[Yl,hv,c8]
  rw[e];generalize hL:Ye l=L at *
  match L,hL with
  | [],hL=>
   simp only[Z8,ONE]at hvv;simp only[Qb]at ha hc;by_cases cv:Zg (.mk 3 [111,110,101] 0 [])=0
   ·rw[cv]at hvv;simp[f196r2,h2,h5,h6,hc,ha,ha1,hvv,cv,Zm,Z8,ONE]
   ·simp[f196r2,h2,h5,h6,hc,ha,ha1,hvv,cv,Zm,Q8,Z8,ONE]
  | [p],hL=>
   simp only[Z8]at hvv;by_cases cv:Zg p=0
   ·rw[cv]at hvv;simp[f196r2,h2,h5,h6,hc,ha,hvv,cv,Zm,Z8]
   ·simp[f196r2,h2,h5,h6,hc,ha,hvv,cv,Zm,Q8,Z8]
  | p:: q:: r,hL=>
   simp only[Z8,MUL]at hvv;have c8'': ¬(8:Int) < (r.length:Int)+1+1:=by simpa using c8'
   have n0: ¬(r.length:Int)+1+1=0:=by omega
   have n1: ¬(r.length:Int)+1+1=1:=by omega
   by_cases cv:Zg (.mk 3 [109,117,108] 0 (p:: q:: r))=0
   ·rw[cv]at hvv;simp[f196r2,h2,h5,h6,hc,ha,hvv,cv,c8'',n0,n1,Zm,Z8,MUL]
   ·simp[f196r2,h2,h5,h6,hc,ha,hvv,cv,c8'',n0,n1,Zm,Q8,Z8,MUL]
def QjC (l:Qj) (bs:Qa) (hv:ZY l=0) (hl:l.length < 5000000) (hk: ∀q∈l,q.1.mass < big) (hm: (∀q∈l,-8<=q.2/\q.2<=8)->Qt (Ye l) < big - 100):
  ∀(post pre:Qj) (ρ:Ql),l=pre ++ post->(∀q∈pre,-8<=q.2/\q.2<=8)->ρ 2= .bx [.int .i64 0,.str [],.int .i64 0,.sl true 4 []]->ρ 5= .sl true 4 (Qb (WT pre))->ρ 6= .sl true 4 (Qb (Vd pre))->
   ρ 18= .sl false 5 (QE l)->ρ 19= .int .i64 l.length->ρ 20= .int .i64 pre.length->
  R tb (.loop f196l2) ρ bs (Qq 0 (QH tb f196r2 (QP f196 bs)))=some (Zm (Yl l),bs):=by
 intro post
 induction post with
 | nil=>
  intro pre ρ hkk hq h2 h5 h6 h18 h19 h20;simp only[QN]at hkk;subst hkk;have hr:=QjD l bs hv (by
   have h1:=Dq (l:=l) fun q h=>(hq q h).2;have h2:=Di (l:=l) fun q h=>(hq q h).1;simp only[Ye,Zo];omega) (hm hq)
  rw[Qg f196l2.eq_1];simp[h18,h19,h20];apply hr <;> simp[h2,h5,h6]
 | cons p post IH=>
  intro pre ρ hkk hq h2 h5 h6 h18 h19 h20;have hg:=Qx hkk;have hll:l.length=pre.length+ (post.length+1):=by rw[hkk];simp
  have hw1:=wr1 pre.length (by omega);have hlt: (pre.length:Int) < (l.length:Int):=by omega
  have hpl:p∈l:=by rw[hkk];simp
  have hmp:=hk p hpl;have hbig: ∀n,n < (Ye l).length->8<=n->Yl l=(QG,3):=by
   intro n h1 h2;have:8 < (Ye l).length:=by omega
   simp[Yl,hv,this]
  rw[Qg f196l2.eq_1];by_cases c1:8 < p.2
  ·have h1:=Ds hpl;have e:=hbig 8 (by simp only[Ye,Zo];omega) (by omega);rw[e];simp[h2,h5,h6,h18,h19,h20,hg,hlt,c1,Zm,Q8]
  ·by_cases c2:p.2 < -8
   ·have h1:=Dj hpl;have e:=hbig 8 (by simp only[Ye,Zo];omega) (by omega);rw[e];simp[h2,h5,h6,h18,h19,h20,hg,hlt,c1,c2,Zm,Q8]
   ·have hN: -8<=p.2/\p.2<=8:=by omega
    have hw:IntKind.i64.wrap (-p.2)= -p.2:=Zb (by omega) (by omega);have hq2: ∀q∈pre ++ [p],-8<=q.2/\q.2<=8:=by
     intro q h;rcases Wc.1 h with h | h
     ·exact hq q h
     ·simp at h;subst h;exact hN
    have h1:=Dq (l:=pre) fun q h=>(hq q h).2;have h3:=Di (l:=pre) fun q h=>(hq q h).1;have ih:=fun ρ=>IH (pre ++ [p]) ρ (by rw[hkk];simp) hq2;simp[h2,h5,h6,h18,h19,h20,hg,hlt,c1,c2];refine QjA hmp hN _ _ _ p.2.toNat (WT pre) 0 _ (by omega) (by omega) ?_ ?_ ?_ ?_ ?_
    ·simp[h5]
    ·simp
    ·simp
    ·simp
    ·intro ρ' g5 gj;have g2:ρ' 2=_:=gj 2 (by omega) (by omega);have g6:ρ' 6=_:=gj 6 (by omega) (by omega);have g8:ρ' 8=_:=gj 8 (by omega) (by omega);have g18:ρ' 18=_:=gj 18 (by omega) (by omega);have g19:ρ' 19=_:=gj 19 (by omega) (by omega);have g20:ρ' 20=_:=gj 20 (by omega) (by omega);simp[h2,h6,h18,h19,h20]at g2 g6 g8 g18 g19 g20;simp[f196r0,g8,hw];refine QjB hmp hN _ _ _ (-p.2).toNat (Vd pre) 0 _ (by omega) (by omega) ?_ ?_ ?_ ?_ ?_
     ·simp[g6]
     ·simp[g8]
     ·simp
     ·simp
     ·intro ρ'' k6 kj;have k2:ρ'' 2=_:=kj 2 (by omega) (by omega);have k5:ρ'' 5=_:=kj 5 (by omega) (by omega);have k18:ρ'' 18=_:=kj 18 (by omega) (by omega);have k19:ρ'' 19=_:=kj 19 (by omega) (by omega);have k20:ρ'' 20=_:=kj 20 (by omega) (by omega);simp[g2,g5,g18,g19,g20]at k2 k5 k18 k19 k20;simp[f196r1,k20,hw1];apply ih <;> simp[k2,k5,k6,k18,k19,Dp,Dh]
def Qg6 (l:Qj) (o:Bool) (bs:Qa) (hl:l.length < 5000000) (hk: ∀q∈l,q.1.mass < big) (hm: (∀q∈l,-8<=q.2/\q.2<=8)->Qt (Ye l) < big - 100):
  call tb 196 [.sl o 5 (QE l)] bs=some (Zm (Yl l),bs):=by
 have h1:=OO l false bs (by omega) hk;rw[zcc 196 rfl rfl];by_cases hv:ZY l=0
 ·have h:=fun ρ=>QjC l bs hv hl hk hm l [] ρ rfl (by simp);simp[f196C,h1,hv];apply h <;> simp[WT,Vd,Qb]
 ·have e:Yl l=(QG,ZY l):=by simp[Yl,hv]
  rw[e];simp[f196C,h1,hv,Zm,Q8]
end Go.Am
