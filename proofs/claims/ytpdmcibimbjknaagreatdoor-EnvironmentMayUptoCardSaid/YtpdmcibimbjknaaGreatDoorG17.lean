/-
  Rc13, Rc14, Rc15, Rc16, Rc17.
-/
import Derived.Test.YtpdmcibimbjknaaGreatDoorG16
set_option linter.unusedVariables false
set_option linter.unusedSimpArgs false
namespace Go.Am
set_option maxRecDepth 8000
theorem Gx (t:Tm) (hm:t.mass < big) (hne:t.kids≠[]) (ih: ∀x∈t.kids,∀bs,call F.tb 192 [.agg (Qc x)] bs=some (.agg (Qc x),bs)) (B:List (List AV)):
  ∀(post pre:List Tm) (ρ:Nat→AV),t.kids=pre ++ post→ρ 1= .bx [.int .i64 t.kind,.str t.name,.int .i64 t.sort,.gs B.length 0 4 t.kids.length]→ρ 2= .bx [.int .i64 0,.str [],.int .i64 0,.sl true 4 []]→
   ρ 10= .gs B.length 0 4 t.kids.length→ρ 11= .int .i64 t.kids.length→ρ 12= .int .i64 pre.length→
  R F.tb (.loop F.f192l0) ρ (B ++ [Qo t.kids]) (Qh 0 (Qq F.tb F.f192r0 (Qx F.f192 B)))=some (.agg (Qc t),B):=by
 have hm2:=Qy t;unfold big at hm;have es: ∀x y:List AV,(B ++ [x]).set B.length y=B ++ [y]:=fun x y=>by rw[List.set_append];simp
 have eg: ∀x:List AV,(B ++ [x])[B.length]? =some x:=fun x=>List.getElem?_concat_length;have hlen: (Qo t.kids).length=t.kids.length*4:=ZZ QC _;have hst: (Qo t.kids).map AV.strip=Qo t.kids:=Yw Zk _;intro post
 induction post with
 | nil=>
  intro pre ρ hk h1 h2 h10 h11 h12;simp only[List.append_nil]at hk;rw[← hk]at h12;have hch:ZL (Qo t.kids) 0 4 t.kids.length=encTs t.kids:=by
   have:=YX (f:=Qc) (k:=4) QC Zk t.kids [];rw[VA,List.append_nil]at this;exact this
  have hz: ¬t.kids.length=0:=fun e=>hne (List.eq_nil_of_length_eq_zero e);rw[Qb F.f192l0.eq_1];simp[h1,h2,h10,h11,h12,F.f192r0,hz,hne,hlen,hch,es,eg,WW,Tm.eta]
 | cons x post IH=>
  intro pre ρ hk h1 h2 h10 h11 h12;have hl:=Qu hk;have hw1:=wr1 pre.length (by omega);have hlt:=Qv hk;have hlt':pre.length < t.kids.length:=by omega
  have r1: ((Qo t.kids).drop (pre.length*4)).take 4=Qc x:=by
   have:=WI (f:=Qc) (k:=4) QC hk [];simpa using this
  have hput: (Qo t.kids).take (pre.length*4)++ (Qc x ++ (Qo t.kids).drop (pre.length*4+4))=Qo t.kids:=by
   have:=Tf (f:=Qc) (k:=4) QC x hk [];rw[← hk]at this;simpa using this
  have hle:pre.length*4+4≤t.kids.length*4:=by omega
  have hc:=ih x (by rw[hk];simp);have h2':=IH (pre ++ [x]);rw[Qb F.f192l0.eq_1];generalize Qo t.kids=c at *;simp[h1,h2,h10,h11,h12,hw1,hlt,hlt',eg,es,hlen,hle,hst,r1,hc,hput];refine h2' _ (by rw[hk];simp) ?_ ?_ ?_ ?_ ?_ <;> simp[h1,h2,h10,h11]
theorem Up: ∀(t:Tm) (bs:List (List AV)),t.mass < big→call F.tb 192 [.agg (Qc t)] bs=some (.agg (Qc t),bs):=by
 refine ZD ?_;intro k n s ks ih bs hm;have hme:=Qy (.mk k n s ks);simp only[QY,Zl]at hme;have hb:ks.length*56≤140737488355328:=by unfold big at hm;omega
 rw[Qa F.tb_192 _ _ rfl];have ho:call F.tb 193 [.sl false 4 (encTs ks)] bs=if ks.length=0 then some (.gs 0 0 0 0,bs)else some (.gs bs.length 0 4 ks.length,bs ++ [Qo ks]):=by
  have hst: (Qo ks).map AV.strip=Qo ks:=Yw Zk _;rw[Y6 F.tb_193];simp only[Xg,if_true,UH,WX,hb,encTs_gp,Mg,hst]
 by_cases hk:ks=[]
 ·subst hk;simp[F.f192C,QS,encTs]at ho ⊢;simp[ho];rw[Qb F.f192l0.eq_1];simp[F.f192r0]
 ·have hz: ¬ks.length=0:=fun e=>hk (List.eq_nil_of_length_eq_zero e);rw[if_neg hz]at ho;have hl:=fun ρ=>Gx (.mk k n s ks) hm hk (fun x hx bs=>ih x hx bs (by have:=QF (show x∈ks from hx);omega)) bs ks [] ρ rfl;simp only[Vd,Zl,Uk,QY]at hl;simp[F.f192C];simp[QS,ho];have e:AV.agg [.int .i64 k,.str n,.int .i64 s,.sl false 4 (encTs ks)]= .agg (Qc (.mk k n s ks)):=by rw[QS];rfl
  rw[e];refine hl _ ?_ ?_ ?_ ?_ ?_ <;> simp
abbrev Pw:=Tm×Int
def QT (p:Pw):List AV:=Qc p.1 ++ [.int .i64 p.2]
def Qt (l:List Pw):List (List AV):=l.map QT
abbrev QB (l:List Pw):List AV:=ZP QT l
theorem Fc (p:Pw):QT p=[.int .i64 p.1.kind,.str p.1.name,.int .i64 p.1.sort,.sl false 4 (encTs p.1.kids),.int .i64 p.2]:=by simp[QT,QS]
@[simp] theorem Xr (p:Pw): (QT p).length=5:=by simp[QT]
@[simp] theorem X1 (p:Pw): (QT p).map AV.strip=QT p:=by simp[QT]
@[simp] theorem Qiv (p:Pw): (QT p).take 4=Qc p.1:=by simp[QT]
@[simp] theorem Qiw (p:Pw): (QT p).take 5=QT p:=List.take_of_length_le (by simp)
@[simp] theorem QjY (p:Pw): (QT p)[4]? =some (.int .i64 p.2):=by simp[QT]
@[simp] theorem QjP (p:Pw) (h:4 < (QT p).length): (QT p)[4]= .int .i64 p.2:=by simp[QT]
@[simp] theorem Qiu (p:Pw): (QT p).drop 5=[]:=by simp[QT,List.drop_append]
@[simp] theorem QdV (p:Pw):gpfreeL (QT p)=true:=by simp[QT,Sb]
@[simp] theorem Qja (l:List Pw): (Qt l).length=l.length:=by simp[Qt]
@[simp] theorem Qi9 (l:List Pw) (i:Nat): (Qt l)[i]? =(l[i]?).map QT:=by simp[Qt]
theorem VE (a b:List Pw):Qt a ++ Qt b=Qt (a ++ b):=by simp[Qt]
theorem VF (p:Pw): [QT p]=Qt [p]:=rfl
@[simp] theorem Pi: ∀l:List Pw,gpfreeE (Qt l)=true
 | []=>rfl
 | p:: l=>by
  have:=Pi l;simp only[Qt]at this ⊢;simp[gpfreeE,this]
theorem Yt (l:List Pw): (QB l).length=l.length*5:=ZZ Xr l
theorem GO (p:Pw) (t:Tm) (B:List (List AV)) (hp:p.1.mass < big) (ht:t.mass < big):call F.tb 190 [.agg (QT p),.agg (Qc t)] B=some (.int .i64 (Qm p.1 t),B):=by
 have h:=call_Compare p.1 t B hp ht;rw[Qa F.tb_190 _ _ rfl];simp[F.f190,F.f190C,h]
def Zb (l:List Pw):List Tm:=l.map (·.1)
def PAt (l:List Pw) (t:Tm) (k:Nat):Prop:=k≤l.length∧(∀(i:Nat) (p:Pw),l[i]? =some p→i < k→Qm p.1 t < 0)∧(∀(i:Nat) (p:Pw),l[i]? =some p→k≤i→¬Qm p.1 t < 0)
def hit (l:List Pw) (t:Tm) (k:Nat):Bool:=match l[k]? with
 | some p=>decide (Qm p.1 t=0)
 | none=>false
def QgE (l:List Pw) (t:Tm) (B:List (List AV)) (r:Out):Prop:=∃k,PAt l t k∧r=some (.tup [.int .i64 k,.bool (hit l t k)],B)
theorem Lr {l:List Pw} {i:Nat} {p:Pw} {c:List AV} (h: (c.drop (i*5)).take 5=QT p): ((c.map AV.strip).drop (i*5)).take 5=QT p:=by
 rw[← List.map_drop,← List.map_take,h,X1]
theorem RW {l:List Pw} {i:Nat} {p:Pw} (h:l[i]? =some p) (c:List AV): ((QB l ++ c).drop (i*5)).take 5=QT p:=by
 obtain⟨hi,rfl⟩:=List.getElem?_eq_some_iff.1 h;have hl:l=l.take i ++ l[i]:: l.drop (i+1):=by rw[List.getElem_cons_drop,List.take_append_drop]
 have:=WI (f:=QT) (k:=5) Xr hl c;rw[List.length_take,Nat.min_eq_left (by omega)]at this;exact this
theorem BH {i j:Nat} (h:i+j < 9223372036854775808):IntKind.i64.wrap (IntKind.u64.wrap (IntKind.i64.wrap ((i:Int)+ (j:Int))) / 2 ^ min 1 IntKind.u64.bits)=(((i+j) / 2:Nat):Int):=by
 rw[QW (n:=(i:Int)+j) (by omega) (by omega)];have h1:IntKind.u64.wrap ((i:Int)+j)=(i:Int)+j:=by
  simp[IntKind.wrap,IntKind.bits,IntKind.signed];omega
 have h2: (2:Int) ^ min 1 IntKind.u64.bits=2:=by decide
 rw[h1,h2,QW (by omega) (by omega)];omega
theorem Qa8 {l:List Pw} {t:Tm} {B:List (List AV)} {id sz:Nat} {c:List AV} (hl:l.length < 100000000) (hb:l≠[]→sz=5∧B[id]? =some (QB l ++ c)) (hm: ∀p∈l,p.1.mass < big) (ht:t.mass < big) (ha:Asc (Zb l)):
  ∀(d i j:Nat) (ρ:Nat→AV),j - i≤d→i≤j→j≤l.length→(∀(k:Nat) (p:Pw),l[k]? =some p→k < i→Qm p.1 t < 0)→(∀(k:Nat) (p:Pw),l[k]? =some p→j≤k→¬Qm p.1 t < 0)→
  ρ 0= .gs id 0 sz l.length→ρ 4= .bx (Qc t)→ρ 2= .fn 190 []→ρ 8= .int .i64 l.length→ρ 9= .int .i64 i→ρ 10= .int .i64 j→
  QgE l t B (R F.tb (.loop F.f191l0) ρ B (Qh 0 (Qq F.tb F.f191r0 (Qx F.f191 B)))):=by
 have mono: ∀(i j:Nat) (p q:Pw),l[i]? =some p→l[j]? =some q→i≤j→Qm q.1 t < 0→Qm p.1 t < 0:=by
  intro i j p q hp hq hij h;rcases Nat.lt_or_ge i j with hlt | hge
  ·obtain⟨h1,rfl⟩:=List.getElem?_eq_some_iff.1 hp;obtain⟨h2,rfl⟩:=List.getElem?_eq_some_iff.1 hq;have:=List.pairwise_iff_getElem.1 ha i j (by simpa[Zb]using h1) (by simpa[Zb]using h2) hlt;simp only[Zb,List.getElem_map]at this;exact Yv this h
  ·have:i=j:=by omega
   subst this;rw[hp]at hq;injection hq with hq;subst hq;exact h
 intro d
 induction d with
 | zero=>
  intro i j ρ hd hij hj hlo hhi h0 h4 h2 h8 h9 h10;have:i=j:=by omega
  subst this;refine⟨i,⟨hj,hlo,hhi⟩,?_⟩;rw[Qb F.f191l0.eq_1];by_cases c1:i < l.length
  ·have hp:=List.getElem?_eq_getElem c1;obtain⟨rfl,hbx⟩:=hb (by intro e;subst e;simp at c1);have r1:=Lr (l:=l) (RW hp c);have hmp:=hm _ (List.getElem_mem c1);have hle:i*5+5≤(QB l ++ c).length:=by rw[List.length_append,Yt];omega
   have c1': (i:Int) < (l.length:Int):=by omega
   have hh:hit l t i=decide (Qm l[i].1 t=0):=by simp[hit,hp]
   rw[hh];generalize l[i]=p at *;have h3:=GO p t B hmp ht;generalize QB l ++ c=cc at *;simp[F.f191r0,h0,h2,h4,h8,h9,h10,c1,c1',hbx,hle,r1,h3]
  ·have hh:hit l t i=false:=by simp[hit,List.getElem?_eq_none (Nat.le_of_not_lt c1)]
   have c1': ¬(i:Int) < (l.length:Int):=by omega
   simp[F.f191r0,h0,h2,h4,h8,h9,h10,c1,c1',hh]
 | succ d IH=>
  intro i j ρ hd hij hj hlo hhi h0 h4 h2 h8 h9 h10;by_cases hlt:i < j
  ·have hmn: (i+j) / 2 < l.length:=by omega
   have hw:=BH (i:=i) (j:=j) (by omega);have hp:=List.getElem?_eq_getElem hmn;obtain⟨rfl,hbx⟩:=hb (by intro e;subst e;simp at hmn);have r1:=Lr (l:=l) (RW hp c);have hmp:=hm _ (List.getElem_mem hmn);have hle: (i+j) / 2*5+5≤(QB l ++ c).length:=by rw[List.length_append,Yt];omega
   have hltI: (i:Int) < (j:Int):=by omega
   have hb1:i≤(i+j) / 2:=by omega
   have hb2: (i+j) / 2 < j:=by omega
   generalize l[(i+j) / 2]=p at *;generalize hmm: (i+j) / 2=m at *;have h3:=GO p t B hmp ht;have hw1:IntKind.i64.wrap ((m:Int)+1)=((m+1:Nat):Int):=by rw[QW (by omega) (by omega)];omega
   have c1': (m:Int) < (l.length:Int):=by omega
   generalize hcc:QB l ++ c=cc at *;rw[Qb F.f191l0.eq_1];by_cases cc1:Qm p.1 t < 0
   ·have ih:=fun ρ=>IH (m+1) j ρ (by omega) (by omega) hj (fun k q hq hk=>mono k m q p hq hp (by omega) cc1) hhi;simp[-getElem?_pos,h0,h2,h4,h8,h9,h10,hltI,hw,hw1,c1',hmn,hbx,hle,r1,h3,cc1];refine ih _ ?_ ?_ ?_ ?_ ?_ ?_ <;> simp[h0,h2,h4,h8,h10]
   ·have ih:=fun ρ=>IH i m ρ (by omega) (by omega) (by omega) hlo (fun k q hq hk h=>cc1 (mono m k p q hp hq hk h));simp[-getElem?_pos,h0,h2,h4,h8,h9,h10,hltI,hw,hw1,c1',hmn,hbx,hle,r1,h3,cc1];refine ih _ ?_ ?_ ?_ ?_ ?_ ?_ <;> simp[h0,h2,h4,h8,h9]
  ·exact IH i j ρ (by omega) hij hj hlo hhi h0 h4 h2 h8 h9 h10
theorem QcG {l:List Pw} {t:Tm} {B:List (List AV)} {id sz:Nat} {c:List AV} (hl:l.length < 100000000) (hb:l≠[]→sz=5∧B[id]? =some (QB l ++ c)) (hm: ∀p∈l,p.1.mass < big) (ht:t.mass < big) (ha:Asc (Zb l)):
  QgE l t B (call F.tb 191 [.gs id 0 sz l.length,.agg (Qc t),.fn 190 []] B):=by
 have h:=fun ρ=>Qa8 hl hb hm ht ha l.length 0 l.length ρ (by omega) (by omega) (by omega) (fun k p _ hk=>by omega) (fun k p hp hk=>by rw[List.getElem?_eq_none hk]at hp;cases hp);rw[Qa F.tb_191 _ _ rfl];simp[F.f191C];refine h _ ?_ ?_ ?_ ?_ ?_ ?_ <;> simp
@[simp] theorem Ek (t:Tm): (Qc t).drop 5=[]:=by simp[QS]
def Qe5 (l:List Pw) (id:Nat) (B:List (List AV)) (r:Out):Prop:=∃t,t≠[]∧r=some (.gs id 0 5 l.length,B.set id (QB l ++ t))
theorem QcH {pre post:List Pw} {p:Pw} {id n:Nat} {B:List (List AV)} {t:List AV} (hn:n=pre.length+1+post.length) (hl:n < 100000000) (hb:B[id]? =some (QB (pre ++ p:: post)++ t)):
  Qe5 (pre ++ post) id B (call F.tb 195 [.gs id 0 5 n,.int .i64 pre.length,.int .i64 ((pre.length:Int)+1)] B):=by
 have hlt:=Wk hb;have e1: (0:Int)≤(pre.length:Int):=by omega
 have e2: (pre.length:Int)≤(pre.length:Int)+1:=by omega
 have e3: (pre.length:Int)+1≤(n:Int):=by omega
 have e4: (0:Int)≤(pre.length:Int)+1:=by omega
 have e5: ¬(pre.length:Int)=(pre.length:Int)+1:=by omega
 have e6: (pre.length:Int)≤(n:Int):=by omega
 have e7: ((pre.length:Int)+1).toNat=pre.length+1:=by omega
 have e8:n - (pre.length+1)=post.length:=by omega
 have e9: (pre.length+post.length)=n - 1:=by omega
 have e10:n - (n - 1)=1:=by omega
 have e11: ((n - 1:Nat):Int)≤(n:Int):=by omega
 have hl0: (QB pre).length=pre.length*5:=Yt pre;have hp0: (QB post).length=post.length*5:=Yt post;have hst: (QB post).map AV.strip=QB post:=Yw X1 post;have hrl: (QB (pre ++ p:: post)++ t).length=n*5+t.length:=by rw[List.length_append,Yt];simp;omega
 have htk:=TG (f:=QT) (k:=5) Xr (l:=pre ++ p:: post) (pre:=pre) (post:=p:: post) rfl t;have hdr:=NP (f:=QT) (k:=5) Xr (l:=pre ++ p:: post) (pre:=pre ++ [p]) (post:=post) (by simp) t;rw[List.length_append,List.length_singleton]at hdr;have hne:QB (pre ++ p:: post)++ t≠[]:=by
  intro e;have:=congrArg List.length e;rw[hrl]at this;simp at this;omega
 have hb56:n*64≤140737488355328:=by omega
 have hb57:pre.length*64≤140737488355328:=by omega
 have hb58: (pre.length+post.length)*64≤140737488355328:=by omega
 have hq2: (n:Int)≤((QB (pre ++ p:: post)++ t).length:Int) / 5:=by rw[hrl];omega
 have e13:pre.length≤n:=by omega
 rw[Qa F.tb_195 _ _ rfl];generalize hcc:QB (pre ++ p:: post)++ t=c at *;by_cases hp:post=[]
 ·subst hp;have e8':n - (pre.length+1)=0:=by simpa using e8
  have e9':pre.length=n - 1:=by simpa using e9
  have e12:n - pre.length=1:=by omega
  have hle:pre.length*5+5≤c.length:=by omega
  refine⟨List.replicate 5 .undef ++ c.drop (pre.length*5+5),by simp,?_⟩;simp[-getElem?_pos,F.f195C,e1,e2,e3,e4,e5,e6,e7,e8',e12,e13,hb,hb57,hq2,hle,hne,htk,appM,Wz]
 ·have hz: ¬post.length=0:=fun e=>hp (List.eq_nil_of_length_eq_zero e);have hle: (pre.length+1)*5+post.length*5≤c.length:=by omega
  have hle2: (pre.length+post.length)*5≤c.length:=by omega
  have hle3:pre.length*5≤c.length:=by omega
  have htp: ((c.map AV.strip).drop ((pre.length+1)*5)).take (post.length*5)=QB post:=by
   rw[← List.map_drop,hdr,← hp0,List.map_append];change List.take (QB post).length (List.map AV.strip (QB post)++ List.map AV.strip t)=QB post;rw[hst,List.take_left]
  have e14: (pre.length:Int)+ (post.length:Int)≤(n:Int):=by omega
  have e15: (0:Int)≤(pre.length:Int)+ (post.length:Int):=by omega
  have e16:n - (pre.length+post.length)=1:=by omega
  have e17: ((pre.length:Int)+ (post.length:Int)).toNat=pre.length+post.length:=by omega
  have e18:pre.length+post.length≤n:=by omega
  have hgs: ∀x:List AV,(B.set id x)[id]? =some x:=fun x=>by simp[hlt]
  obtain⟨c1,hc1⟩: ∃c1,ZP QT pre ++ (QB post ++ c.drop (pre.length*5+post.length*5))=c1:=⟨_,rfl⟩;have hc1':c1=QB (pre ++ post)++ c.drop ((pre.length+post.length)*5):=by rw[← hc1,show QB (pre ++ post)=QB pre ++ QB post from Wo _ _ _,Nat.add_mul];simp
  have hr1: (QB (pre ++ post)).length=(pre.length+post.length)*5:=by rw[Yt];simp
  have hl1:c1.length=c.length:=by rw[hc1',List.length_append,hr1,List.length_drop];omega
  have htk1:c1.take ((pre.length+post.length)*5)=QB (pre ++ post):=by rw[hc1',← hr1,List.take_left]
  have hle4: (pre.length+post.length)*5+5≤c1.length:=by omega
  rw[← hl1]at hq2;refine⟨List.replicate 5 .undef ++ c1.drop ((pre.length+post.length)*5+5),by simp,?_⟩;rw[hl1]at hq2;have hq3: (n:Int)≤(c1.length:Int) / 5:=by rw[hl1];exact hq2
  simp[-getElem?_pos,F.f195C,e1,e2,e3,e4,e5,e6,e7,e8,e14,e15,e16,e17,e18,hp,hb,hb57,hb58,hq2,hq3,hle,hle2,hle3,hle4,hne,htk,htk1,htp,hp0,hgs,hc1,appM,Wz]
def Ya:List Pw→Tm→Int→List Pw
 | [],t,n=>[(t,n)]
 | p:: r,t,n=>if Qm p.1 t < 0 then p:: Ya r t n else if Qm p.1 t=0 then(if p.2+n=0 then r else(p.1,p.2+n):: r)else(t,n):: p:: r
theorem Ii: ∀(pre post:List Pw) (t:Tm) (n:Int),(∀p∈pre,Qm p.1 t < 0)→Ya (pre ++ post) t n=pre ++ Ya post t n
 | [],_,_,_,_=>rfl
 | p:: pre,post,t,n,h=>by
  simp only[List.cons_append,Ya];rw[if_pos (h p (by simp)),Ii pre post t n fun q hq=>h q (by simp[hq])]
def PS (B0 B:List (List AV)) (v:AV) (l:List Pw):Prop:=∃(M:List (List AV)) (id sz:Nat),B=B0 ++ M∧v= .gs id 0 sz l.length∧
 ((sz=0∧id=0∧l=[])∨(sz=5∧B0.length≤id∧∃t,B[id]? =some (QB l ++ t)∧QB l ++ t≠[]))
def A3 (B0:List (List AV)) (l:List Pw) (r:Out):Prop:=∃v B,r=some (v,B)∧PS B0 B v l
theorem B5 (B0:List (List AV)):PS B0 B0 (.gs 0 0 0 0) []:=⟨[],0,0,by simp,rfl,.inl ⟨rfl,rfl,rfl⟩⟩
theorem YI {B0 M:List (List AV)} {id:Nat} (h:B0.length≤id) (x:List AV): (B0 ++ M).set id x=B0 ++ M.set (id - B0.length) x:=by rw[List.set_append,if_neg (by omega)]
theorem GN {B0 B:List (List AV)} {v:AV} {l:List Pw} {p:Pw} (h:PS B0 B v l) (hl:l.length < 50000000) (hm: ∀q∈l,q.1.mass < big∧ -100000000 < q.2∧q.2 < 100000000) (hp:p.1.mass < big) (hpn: -100000000 < p.2∧p.2 < 100000000) (ha:Asc (Zb l)):
  A3 B0 (Ya l p.1 p.2) (call F.tb 189 [v,.agg (QT p)] B):=by
 obtain⟨M,id,sz,rfl,rfl,hcase⟩:=h;have hb: ∃c,l≠[]→sz=5∧(B0 ++ M)[id]? =some (QB l ++ c):=by
  rcases hcase with⟨_,_,rfl⟩ | ⟨h1,_,t,h2,_⟩
  ·exact⟨[],fun h=>absurd rfl h⟩
  ·exact⟨t,fun _=>⟨h1,h2⟩⟩
 obtain⟨c,hb⟩:=hb;obtain⟨k,⟨hk1,hk2,hk3⟩,hc⟩:=QcG (t:=p.1) (by omega) hb (fun q hq=>(hm q hq).1) hp ha;have hcl:=Up p.1 (B0 ++ M) hp;have hsplit:l=l.take k ++ l.drop k:=(List.take_append_drop _ _).symm;have hkl: (l.take k).length=k:=by rw[List.length_take];omega
 have hpre: ∀q∈l.take k,Qm q.1 p.1 < 0:=by
  intro q hq;obtain⟨i,hi,rfl⟩:=List.getElem_of_mem hq;rw[hkl]at hi;exact hk2 i _ (by rw[List.getElem_take];exact List.getElem?_eq_getElem (by omega)) hi
 have hadd:Ya l p.1 p.2=l.take k ++ Ya (l.drop k) p.1 p.2:=by
  conv=>lhs;rw[hsplit]
  exact Ii _ _ _ _ hpre
 rw[Qa F.tb_189 _ _ rfl];by_cases hh:hit l p.1 k=true
 ·rw[hh]at hc;obtain⟨q,hq,hq0⟩: ∃q,l[k]? =some q∧Qm q.1 p.1=0:=by
   unfold hit at hh;split at hh
   ·rename_i q hq;exact⟨q,hq,by simpa using hh⟩
   ·cases hh
  have hkl2:k < l.length:=by
   rcases Nat.lt_or_ge k l.length with h | h
   ·exact h
   ·rw[List.getElem?_eq_none h]at hq;cases hq
  have hne0:l≠[]:=by intro e;subst e;simp at hkl2
  have hqe:q.1=p.1:=Z6 _ _ hq0;have hdk:l.drop k=q:: l.drop (k+1):=by
   rw[List.drop_eq_getElem_cons hkl2];rw[List.getElem?_eq_getElem hkl2]at hq;injection hq with hq;rw[hq]
  have hlq:l=l.take k ++ q:: l.drop (k+1):=by rw[← hdk];exact hsplit
  have hadd2:Ya (l.drop k) p.1 p.2=if q.2+p.2=0 then l.drop (k+1)else(q.1,q.2+p.2):: l.drop (k+1):=by
   rw[hdk];simp[Ya,hq0]
  rw[hadd,hadd2];rcases hcase with⟨_,_,rfl⟩ | ⟨rfl,hid,t,hbx,hne⟩
  ·exact absurd rfl hne0
  have hlt:=Wk hbx;have hqm:=(hm q (List.mem_of_getElem? hq)).2;have hw:IntKind.i64.wrap (q.2+p.2)=q.2+p.2:=QW (by omega) (by omega);have hrd:=RW hq t;have hlen: (QB l ++ t).length=l.length*5+t.length:=by rw[List.length_append,Yt]
  have hcell: (QB l ++ t)[k*5+4]? =some (.int .i64 q.2):=by
   have h1: (((QB l ++ t).drop (k*5)).take 5)[4]? =some (.int .i64 q.2):=by rw[hrd];simp
   rw[List.getElem?_take_of_lt (by omega),List.getElem?_drop]at h1;exact h1
  have hle:k*5+4+1≤(QB l ++ t).length:=by omega
  have hnew: (QB l ++ t).take (k*5+4)++ (AV.int .i64 (q.2+p.2):: (QB l ++ t).drop (k*5+4+1))=QB (l.take k ++ (q.1,q.2+p.2):: l.drop (k+1))++ t:=by
   have h1:=Tf (f:=QT) (k:=5) Xr (q.1,q.2+p.2) hlq t;rw[hkl]at h1;rw[show QB (l.take k ++ (q.1,q.2+p.2):: l.drop (k+1))++ t=_ from h1.symm];have h2: (QB l ++ t).take (k*5+4)=(QB l ++ t).take (k*5)++ Qc q.1:=by
    rw[List.take_add];congr 1;have: ((QB l ++ t).drop (k*5)).take 4=(((QB l ++ t).drop (k*5)).take 5).take 4:=by rw[List.take_take];rfl
    rw[this];rw[hrd];simp
   rw[h2];simp[QT]
  have hlt3: (k:Int) < (l.length:Int):=by omega
  have hgs: ∀x:List AV,((B0 ++ M).set id x)[id]? =some x:=fun x=>by
   have:id < (B0 ++ M).length:=hlt;rw[List.getElem?_set,if_pos rfl,if_pos this]
  have hcell2: (QB (l.take k ++ (q.1,q.2+p.2):: l.drop (k+1))++ t)[k*5+4]? =some (.int .i64 (q.2+p.2)):=by
   have h0: (l.take k ++ (q.1,q.2+p.2):: l.drop (k+1))[k]? =some (q.1,q.2+p.2):=by
    rw[List.getElem?_append_right (by omega),hkl,Nat.sub_self];rfl
   have h1: (((QB (l.take k ++ (q.1,q.2+p.2):: l.drop (k+1))++ t).drop (k*5)).take 5)[4]? =some (.int .i64 (q.2+p.2)):=by rw[RW h0 t];simp
   rw[List.getElem?_take_of_lt (by omega),List.getElem?_drop]at h1;exact h1
  have hln: (l.take k ++ (q.1,q.2+p.2):: l.drop (k+1)).length=l.length:=by simp;omega
  have hle2:k*5+4+1≤(QB (l.take k ++ (q.1,q.2+p.2):: l.drop (k+1))++ t).length:=by rw[List.length_append,Yt,hln];omega
  have hw2:IntKind.i64.wrap ((k:Int)+1)=(k:Int)+1:=QW (by omega) (by omega);have hdel:=fun(x:Pw) (B:List (List AV)) (hB:B[id]? =some (QB (l.take k ++ x:: l.drop (k+1))++ t))=>QcH (n:=l.length) (by simp;omega) (by omega) hB;rw[hkl]at hdel;generalize hc1:QB (l.take k ++ (q.1,q.2+p.2):: l.drop (k+1))++ t=c1 at *;generalize hc0:QB l ++ t=c0 at *;by_cases hz:q.2+p.2=0
  ·obtain⟨t3,ht3,hd3⟩:=hdel (q.1,q.2+p.2) ((B0 ++ M).set id c1) (by rw[hc1];exact hgs c1);rw[if_pos hz];rw[List.set_set]at hd3;refine⟨.gs id 0 5 (l.take k ++ l.drop (k+1)).length,(B0 ++ M).set id (QB (l.take k ++ l.drop (k+1))++ t3),?_,M.set (id - B0.length) (QB (l.take k ++ l.drop (k+1))++ t3),id,5,YI hid _,rfl,.inr ⟨rfl,hid,t3,hgs _,by simp[ht3]⟩⟩;have hwz:IntKind.i64.wrap (q.2+p.2)=0:=by rw[hw,hz]
   rw[hz]at hnew hcell2;simp[-getElem?_pos,QL,List.getElem?_cons_succ,F.f189C,hc,hlt3,hbx,hcell,hle,hwz,hw2,hnew,hgs,hcell2,hle2,hd3]
  ·rw[if_neg hz];refine⟨.gs id 0 5 l.length,(B0 ++ M).set id c1,?_,M.set (id - B0.length) c1,id,5,YI hid _,by rw[hln],.inr ⟨rfl,hid,t,by rw[hc1];exact hgs _,by rw[hc1];intro e;rw[e]at hle2;simp at hle2⟩⟩;simp[-getElem?_pos,QL,List.getElem?_cons_succ,F.f189C,hc,hlt3,hbx,hcell,hle,hw,hw2,hnew,hgs,hcell2,hle2,hz]
 ·have hh':hit l p.1 k=false:=by simpa using hh
  have hadd2:Ya (l.drop k) p.1 p.2=p:: l.drop k:=by
   cases hd:l.drop k with
   | nil=>rfl
   | cons q r=>
    have hq:l[k]? =some q:=by rw[← List.head?_drop,hd];rfl
    have h1:=hk3 k q hq (Nat.le_refl _);have h2: ¬Qm q.1 p.1=0:=by simpa[hit,hq]using hh'
    simp[Ya,h1,h2]
  rw[hadd,hadd2];have hins: ∃t2 M2 id2,call F.tb 194 [.gs id 0 sz l.length,.int .i64 k,.sl false 5 [QT p]] (B0 ++ M)=some (.gs id2 0 5 (l.length+1),B0 ++ M2)∧B0.length≤id2∧(B0 ++ M2)[id2]? =some (QB (l.take k ++ p:: l.drop k)++ t2):=by
   rw[Y6 F.tb_194];have q1: (0:Int)≤(k:Int):=by omega
   have q2: (k:Int)≤(l.length:Int):=by omega
   have q3: (l.length+1)*64≤140737488355328:=by omega
   have q4:l.length+1≤140737488355328:=by omega
   rcases hcase with⟨rfl,rfl,rfl⟩ | ⟨rfl,hid,t,hbx,hne⟩
   ·have hk0:k=0:=by simpa using hk1
    subst hk0;refine⟨[],M ++ [QT p],(B0 ++ M).length,?_,by simp,?_⟩
    ·simp[Om,Tx,NI]
    ·rw[← List.append_assoc,List.getElem?_concat_length];simp[QB,ZP]
   ·have hlt:=Wk hbx;have hr0:=Yt l;have hle:l.length*5≤(QB l ++ t).length:=by rw[List.length_append,hr0];omega
    have hcs:Tx k 5 l.length (QB l ++ t) [QT p]=QB (l.take k ++ p:: l.drop k):=by
     have h1: (QB l ++ t).take (l.length*5)=QB l:=by rw[← hr0,List.take_left]
     have h2:=TG (f:=QT) (k:=5) Xr (l:=l) (pre:=l.take k) (post:=l.drop k) hsplit [];have h3:=NP (f:=QT) (k:=5) Xr (l:=l) (pre:=l.take k) (post:=l.drop k) hsplit [];rw[hkl,List.append_nil]at h2 h3;rw[List.append_nil]at h3;unfold Tx;rw[h1,h2,h3,show QB (l.take k ++ p:: l.drop k)=QB (l.take k)++ (QT p ++ QB (l.drop k)) by simp[QB,Wo,VB]];rw[List.map_append,List.map_append,Yw X1,Yw X1];simp
    have hgp:gpfreeL (QB (l.take k ++ p:: l.drop k))=true:=Aa QdV _;refine⟨[],M.set (id - B0.length) []++ [QB (l.take k ++ p:: l.drop k)],(B0 ++ M).length,?_,by simp,?_⟩
    ·simp only[Om];rw[if_pos ⟨trivial,by omega,by simp,q1,q2,by simpa using q3,by simpa using q4⟩,if_neg (by omega),if_pos ⟨trivial,trivial⟩,hbx];simp only[Option.bind_some];rw[if_pos ⟨hne,hle⟩,Int.toNat_natCast,hcs,YI hid];simp[NI,hgp]
    ·rw[← List.append_assoc,List.append_nil];have: (B0 ++ M).length=(B0 ++ M.set (id - B0.length) []).length:=by simp
     rw[this,List.getElem?_concat_length]
  obtain⟨t2,M2,id2,hc2,h2a,h2b⟩:=hins;refine⟨.gs id2 0 5 (l.length+1),B0 ++ M2,?_,M2,id2,5,rfl,?_,.inr ⟨rfl,h2a,t2,h2b,?_⟩⟩
  ·rw[hh']at hc;have hfold: [AV.int .i64 p.1.kind,.str p.1.name,.int .i64 p.1.sort,.sl false 4 (encTs p.1.kids),.int .i64 p.2]=QT p:=(Fc p).symm;have hf:Qc p.1 ++ [.int .i64 p.2]=QT p:=rfl;simp[F.f189C,hc,hcl,List.take_append,List.drop_append,hf,Ek,hc2]
  ·congr 1;simp;omega
  ·intro e;have:=congrArg List.length e;rw[List.length_append,Yt]at this;simp at this
def MUL:List UInt8:=[109,117,108]
def INV:List UInt8:=[105,110,118]
def ONE:List UInt8:=[111,110,101]
def XD (t:Tm):Bool:=decide (t.kind=3) && (t.name == MUL || t.name == INV || t.name == ONE)
theorem HK {t:Tm} (h:XD t=true):t.kind=3∧(t.name=MUL∨t.name=INV∨t.name=ONE):=by
 simp only[XD,Bool.and_eq_true,Bool.or_eq_true,decide_eq_true_eq,beq_iff_eq]at h;obtain⟨h1,(h2 | h2) | h2⟩:=h
 ·exact⟨h1,.inl h2⟩
 ·exact⟨h1,.inr (.inl h2)⟩
 ·exact⟨h1,.inr (.inr h2)⟩
theorem P6 (t:Tm) (bs:List (List AV)):call F.tb 188 [.agg (Qc t)] bs=some (.bool (XD t),bs):=by
 rw[Qa F.tb_188 _ _ rfl];by_cases hk:t.kind=3
 ·cases h1:t.name == MUL
  ·cases h2:t.name == INV
   ·cases h3:t.name == ONE <;> simp only[MUL,INV,ONE]at h1 h2 h3 <;> simp[F.f188C,XD,hk,h1,h2,h3,MUL,INV,ONE]
   ·simp only[MUL,INV,ONE]at h1 h2;simp[F.f188C,XD,hk,h1,h2,MUL,INV,ONE]
  ·simp only[MUL,INV,ONE]at h1;simp[F.f188C,XD,hk,h1,MUL,INV,ONE]
 ·simp[F.f188C,XD,hk]
theorem Tr (t:Tm) (bs:List (List AV)):call F.tb 255 [.agg (Qc t)] bs=some (.bool (XD t),bs):=by
 rw[Qa F.tb_255 _ _ rfl];by_cases hk:t.kind=3
 ·cases h1:t.name == MUL
  ·cases h2:t.name == INV
   ·cases h3:t.name == ONE <;> simp only[MUL,INV,ONE]at h1 h2 h3 <;> simp[F.f255C,XD,hk,h1,h2,h3,MUL,INV,ONE]
   ·simp only[MUL,INV,ONE]at h1 h2;simp[F.f255C,XD,hk,h1,h2,MUL,INV,ONE]
  ·simp only[MUL,INV,ONE]at h1;simp[F.f255C,XD,hk,h1,MUL,INV,ONE]
 ·simp[F.f255C,XD,hk]
def Xi (t:Tm):Bool:= !((t.name == MUL && decide (t.kids.length < 2)) || (t.name == INV && !decide (t.kids.length=1)) || (t.name == ONE && !decide (t.kids.length=0)))
mutual
def arB:Tm→Bool
 | .mk k n s ks=> !XD (.mk k n s ks) || (Xi (.mk k n s ks) && arL ks)
def arL:List Tm→Bool
 | []=>true
 | t:: ts=>arB t && arL ts
end
theorem Bb (t:Tm):arB t=(!XD t || (Xi t && arL t.kids)):=by cases t;simp[arB]
mutual
def XM:List Pw→Tm→Int→List Pw
 | l,.mk k n s ks,m=>if XD (.mk k n s ks)then colL l ks (if n == INV then -m else m)else Ya l (.mk k n s ks) m
def colL:List Pw→List Tm→Int→List Pw
 | l,[],_=>l
 | l,t:: ts,m=>colL (XM l t m) ts m
end
theorem RP (l:List Pw) (t:Tm) (m:Int):XM l t m=if XD t then colL l t.kids (if t.name == INV then -m else m)else Ya l t m:=by cases t;simp[XM]
theorem F0 (t:Tm) (bs:List (List AV)) (hm:t.mass < big) (ih: ∀x∈t.kids,∀bs,call F.tb 254 [.agg (Qc x)] bs=some (.bool (arB x),bs)):
  ∀(post pre:List Tm) (ρ:Nat→AV),t.kids=pre ++ post→ρ 1= .bx (Qc t)→ρ 3= .int .i64 t.kids.length→ρ 4= .int .i64 pre.length→
  R F.tb (.loop F.f254l0) ρ bs (Qh 0 (Qq F.tb F.f254r0 (Qx F.f254 bs)))=some (.bool (arL post),bs):=by
 have hm2:=Qy t;unfold big at hm;intro post
 induction post with
 | nil=>
  intro pre ρ hk h1 h3 h4;simp only[List.append_nil]at hk;rw[← hk]at h4;rw[Qb F.f254l0.eq_1];simp[h1,h3,h4,F.f254r0,arL]
 | cons x post IH=>
  intro pre ρ hk h1 h3 h4;have hg:=Qn hk;have hl:=Qu hk;have hw1:=wr1 pre.length (by omega);have hlt:=Qv hk;have hc:=ih x (by rw[hk];simp) bs;rw[Qb F.f254l0.eq_1];cases hb:arB x
  ·simp[h1,h3,h4,hg,hw1,hlt,hc,hb,arL]
  ·have h2:=fun ρ=>IH (pre ++ [x]) ρ (by rw[hk];simp);simp[h1,h3,h4,hg,hw1,hlt,hc,hb,arL];refine h2 _ ?_ ?_ ?_ <;> simp[h1,h3]
theorem F8: ∀(t:Tm) (bs:List (List AV)),t.mass < big→call F.tb 254 [.agg (Qc t)] bs=some (.bool (arB t),bs):=by
 refine ZD ?_;intro k n s ks ih bs hm;have hl:=fun ρ=>F0 (.mk k n s ks) bs hm (fun x hx bs=>ih x hx bs (by have:=QF hx;have:=Qy (.mk k n s ks);simp at *;omega)) ks [] ρ rfl;have hsp:=Tr (.mk k n s ks) bs;rw[Qa F.tb_254 _ _ rfl,Bb];cases hs:XD (.mk k n s ks)
 ·simp[F.f254C,hsp,hs]
 ·have hbe: ((Qc (.mk k n s ks)).map AV.strip)=Qc (.mk k n s ks):=Zk _;obtain⟨rfl,hn⟩:=HK hs;simp only[Zl]at hn;simp only[QY]at hl;rcases hn with rfl | rfl | rfl
  ·by_cases d:ks.length < 2
   ·have d': (ks.length:Int) < 2:=by omega
    have hc:Xi (.mk 3 MUL s ks)=false:=by simp[Xi,d]
    simp only[hc];simp[MUL]at hsp hs hc;simp[F.f254C,hsp,hs,MUL,d']
   ·have d': ¬(ks.length:Int) < 2:=by omega
    have hc:Xi (.mk 3 MUL s ks)=true:=by simp[Xi,d];simp[MUL,INV,ONE]
    simp only[hc];simp[MUL]at hsp hs hc hl;simp[F.f254C,hsp,hs,MUL,d'];refine hl _ ?_ ?_ ?_ <;> simp
  ·by_cases d:ks.length=1
   ·have d': (ks.length:Int)=1:=by omega
    have hc:Xi (.mk 3 INV s ks)=true:=by simp[Xi,d];simp[MUL,INV,ONE]
    simp only[hc];simp[INV]at hsp hs hc hl;simp[F.f254C,hsp,hs,INV,d'];refine hl _ ?_ ?_ ?_ <;> simp[d]
   ·have d': ¬(ks.length:Int)=1:=by omega
    have hc:Xi (.mk 3 INV s ks)=false:=by simp[Xi,d]
    simp only[hc];simp[INV]at hsp hs hc;simp[F.f254C,hsp,hs,INV,d']
  ·by_cases d:ks=[]
   ·subst d;have hc:Xi (.mk 3 ONE s [])=true:=by simp[Xi];simp[MUL,INV,ONE]
    simp only[hc];simp[ONE]at hsp hs hc hl;simp[F.f254C,hsp,hs,ONE];refine hl _ ?_ ?_ ?_ <;> simp
   ·have d0: ¬ks.length=0:=fun e=>d (List.eq_nil_of_length_eq_zero e);have d': ¬(ks.length:Int)=0:=by omega
    have hc:Xi (.mk 3 ONE s ks)=false:=by simp[Xi,d]
    simp only[hc];simp[ONE]at hsp hs hc;simp[F.f254C,hsp,hs,ONE,d,d']
theorem Pq {n:Nat} (h:n < 100000000):n*64≤140737488355328:=by omega
theorem Nr (l:List Pw) (t:Tm) (m:Int) (bs:List (List AV)) (hl:l.length < 100000000) (hm: ∀q∈l,q.1.mass < big) (ht:t.mass < big):
  ∀(post pre acc:List Pw) (o:Bool) (ρ:Nat→AV),l=pre ++ post→acc.length+post.length < 100000000→(∀q∈post,q.2≠0∧Qm t q.1≠0)→ρ 0= .sl o 5 (Qt l)→ρ 2= .int .i64 m→ρ 4= .bx (Qc t)→ρ 7= .sl true 5 (Qt acc)→ρ 8= .bool true→ρ 9= .int .i64 pre.length→
  R F.tb (.loop F.f257l0) ρ bs (Qh 0 (Qq F.tb F.f257r0 (Qx F.f257 bs)))=some (.sl false 5 (Qt (acc ++ post)),bs):=by
 intro post
 induction post with
 | nil=>
  intro pre acc o ρ hk ha hp h0 h2 h4 h7 h8 h9;simp only[List.append_nil]at hk;rw[← hk]at h9;rw[Qb F.f257l0.eq_1];simp[h0,h2,h4,h7,h8,h9,F.f257r0]
 | cons q post IH=>
  intro pre acc o ρ hk ha hp h0 h2 h4 h7 h8 h9;have hg:=Qn hk;have hll:=Qu hk;have hw1:=wr1 pre.length (by omega);have hlt:=Qv hk;have hc:=WG t q.1 bs ht (hm q (by rw[hk];simp));obtain⟨hq1,hq2⟩:=hp q (by simp);have hb: (acc.length+1)*64≤140737488355328:=Pq (by simp at ha;omega);have h3:=fun ρ=>IH (pre ++ [q]) (acc ++ [q]) o ρ (by rw[hk];simp) (by simp at ha ⊢;omega) (fun x hx=>hp x (by simp[hx]));simp only[List.append_assoc,List.cons_append,List.nil_append]at h3;rw[Qb F.f257l0.eq_1];simp[h0,h2,h4,h7,h8,h9,hg,hlt,hw1,hc,hq1,hq2,hb,VF,VE];refine h3 _ ?_ ?_ ?_ ?_ ?_ ?_ <;> simp[h0,h2,h4,h8]
def NZ (l:List Pw):Prop:=∀q∈l,q.2≠0
theorem A8 (l:List Pw) (t:Tm) (m:Int) (bs:List (List AV)) (hl:l.length < 50000000) (hm: ∀q∈l,q.1.mass < big∧ -100000000 < q.2∧q.2 < 100000000) (hmm: -100000000 < m∧m < 100000000) (ht:t.mass < big) (ha:Asc (Zb l)) (hz:NZ l):
  ∀(post pre acc:List Pw) (o:Bool) (ρ:Nat→AV),l=pre ++ post→acc.length+post.length < 50000000→ρ 0= .sl o 5 (Qt l)→ρ 2= .int .i64 m→ρ 4= .bx (Qc t)→ρ 7= .sl true 5 (Qt acc)→ρ 8= .bool false→ρ 9= .int .i64 pre.length→
  R F.tb (.loop F.f257l0) ρ bs (Qh 0 (Qq F.tb F.f257r0 (Qx F.f257 bs)))=some (.sl false 5 (Qt (acc ++ Ya post t m)),bs):=by
 intro post
 induction post with
 | nil=>
  intro pre acc o ρ hk hac h0 h2 h4 h7 h8 h9;simp only[List.append_nil]at hk;rw[← hk]at h9;have hb: (acc.length+1)*64≤140737488355328:=Pq (by simp at hac;omega);have hf:Qc t ++ [.int .i64 m]=QT (t,m):=rfl;rw[Qb F.f257l0.eq_1];simp[h0,h2,h4,h7,h8,h9,F.f257r0,Ya,hb,List.take_append,List.drop_append,hf,VF,VE]
 | cons q post IH=>
  intro pre acc o ρ hk hac h0 h2 h4 h7 h8 h9;have hg:=Qn hk;have hll:=Qu hk;have hw1:=wr1 pre.length (by omega);have hlt:=Qv hk;have hql:q∈l:=by rw[hk];simp
  have hqm:=hm q hql;have hq0:=hz q hql;have hc:=WG t q.1 bs ht hqm.1;have hb: (acc.length+1)*64≤140737488355328:=Pq (by simp at hac;omega);have hb2: (acc.length+1+1)*64≤140737488355328:=Pq (by clear hb;simp at hac;omega);have hap: ∀x∈post,Qm q.1 x.1 < 0:=by
   intro x hx;have h1:=ha;rw[hk,Zb,List.map_append,List.map_cons]at h1;have h2:=(List.pairwise_append.1 h1).2.1;exact(List.pairwise_cons.1 h2).1 x.1 (List.mem_map_of_mem hx)
  have hpz: ∀x∈post,x.2≠0:=fun x hx=>hz x (by rw[hk];simp[hx]);have hf:Qc t ++ [.int .i64 m]=QT (t,m):=rfl;have hanti:=Xh t q.1;rw[Qb F.f257l0.eq_1];by_cases c1:Qm q.1 t < 0
  ·have e1: ¬Qm t q.1 < 0:=by clear hb hb2;omega
   have e2: ¬Qm t q.1=0:=by clear hb hb2;omega
   have h3:=fun ρ=>IH (pre ++ [q]) (acc ++ [q]) o ρ (by rw[hk];simp) (by clear hb hb2;simp at hac ⊢;omega);simp only[List.append_assoc,List.cons_append,List.nil_append]at h3;simp only[Ya,c1,if_true];simp[h0,h2,h4,h7,h8,h9,hg,hlt,hw1,hc,hq0,e1,e2,hb,VF,VE];refine h3 _ ?_ ?_ ?_ ?_ ?_ ?_ <;> simp[h0,h2,h4,h8]
  ·by_cases c2:Qm q.1 t=0
   ·have e1: ¬Qm t q.1 < 0:=by clear hb hb2;omega
    have e2:Qm t q.1=0:=by clear hb hb2;omega
    have hqt:=Z6 _ _ c2;have hw2:IntKind.i64.wrap (q.2+m)=q.2+m:=QW (by clear hb hb2;omega) (by clear hb hb2;omega);have hpo: ∀x∈post,x.2≠0∧Qm t x.1≠0:=fun x hx=>⟨hpz x hx,by have:=hap x hx;rw[hqt]at this;clear hb hb2;omega⟩;have hf2: (QT q).take 4 ++ [.int .i64 (q.2+m)]=QT (q.1,q.2+m):=by simp[QT]
    by_cases c3:q.2+m=0
    ·have h3:=fun ρ=>Nr l t m bs (by clear hb hb2;omega) (fun q hq=>(hm q hq).1) ht post (pre ++ [q]) acc o ρ (by rw[hk];simp) (by clear hb hb2;simp at hac;omega) hpo;simp only[Ya,c1,c2,c3,if_true,if_false];have hf3: (QT q).take 4 ++ [.int .i64 0]=QT (q.1,0):=by simp[QT]
     simp[h0,h2,h4,h7,h8,h9,hg,hlt,hw1,hw2,hc,e2,c3,VF,VE];refine h3 _ ?_ ?_ ?_ ?_ ?_ ?_ <;> simp[h0,h2,h4,h7]
    ·have h3:=fun ρ=>Nr l t m bs (by clear hb hb2;omega) (fun q hq=>(hm q hq).1) ht post (pre ++ [q]) (acc ++ [(q.1,q.2+m)]) o ρ (by rw[hk];simp) (by clear hb hb2;simp at hac ⊢;omega) hpo;simp only[List.append_assoc,List.cons_append,List.nil_append]at h3;simp only[Ya,c1,c2,c3,if_true,if_false];have hf3:Qc q.1 ++ [.int .i64 (q.2+m)]=QT (q.1,q.2+m):=rfl;simp[h0,h2,h4,h7,h8,h9,hg,hlt,hw1,hw2,hc,e2,c3,hb,hf3,VF,VE];refine h3 _ ?_ ?_ ?_ ?_ ?_ ?_ <;> simp[h0,h2,h4]
   ·have e1:Qm t q.1 < 0:=by clear hb hb2;omega
    have e2: ¬Qm t q.1=0:=by clear hb hb2;omega
    have hpo: ∀x∈post,x.2≠0∧Qm t x.1≠0:=fun x hx=>⟨hpz x hx,by have:=Yv e1 (hap x hx);clear hb hb2;omega⟩;have h3:=fun ρ=>Nr l t m bs (by clear hb hb2;omega) (fun q hq=>(hm q hq).1) ht post (pre ++ [q]) (acc ++ [(t,m),q]) o ρ (by rw[hk];simp) (by clear hb hb2;simp at hac ⊢;omega) hpo;simp only[List.append_assoc,List.cons_append,List.nil_append]at h3;simp only[Ya,c1,c2,if_false];simp[h0,h2,h4,h7,h8,h9,hg,hlt,hw1,hc,hq0,e1,e2,hb,hb2,List.take_append,List.drop_append,hf,VF,VE];refine h3 _ ?_ ?_ ?_ ?_ ?_ ?_ <;> simp[h0,h2,h4]
theorem Ih: ∀(l:List Pw) (t:Tm) (n:Int),(Ya l t n).length≤l.length+1
 | [],_,_=>by simp[Ya]
 | p:: l,t,n=>by
  have:=Ih l t n;simp only[Ya];split
  ·simp;omega
  ·split
   ·split <;> simp <;> omega
   ·simp
theorem Ua: ∀{l:List Pw} {t:Tm} {n:Int} {q:Pw},q∈Ya l t n→q∈l∨q=(t,n)∨∃m,(t,m)∈l∧q=(t,m+n)∧m+n≠0
 | [],t,n,q,h=>by simp[Ya]at h;exact .inr (.inl h)
 | p:: l,t,n,q,h=>by
  simp only[Ya]at h;split at h
  ·rcases List.mem_cons.1 h with h | h
   ·exact .inl (by simp[h])
   ·rcases Ua h with h | h | ⟨m,h1,h2⟩
    ·exact .inl (by simp[h])
    ·exact .inr (.inl h)
    ·exact .inr (.inr ⟨m,by simp[h1],h2⟩)
  ·split at h
   ·rename_i hc;have he:=Z6 _ _ hc;split at h
    ·exact .inl (by simp[h])
    ·rename_i hz;rcases List.mem_cons.1 h with h | h
     ·exact .inr (.inr ⟨p.2,by rw[← he];simp,by rw[← he];exact h,hz⟩)
     ·exact .inl (by simp[h])
   ·rcases List.mem_cons.1 h with h | h
    ·exact .inr (.inl h)
    ·exact .inl h
theorem Im: ∀{l:List Pw} {t:Tm} {n:Int},Asc (Zb l)→Asc (Zb (Ya l t n))
 | [],t,n,_=>by simp[Ya,Zb,Asc]
 | p:: l,t,n,h=>by
  have h':=h;simp only[Zb,List.map_cons]at h';obtain⟨h1,h2⟩:=YS.1 h';simp only[Ya];split
  ·rename_i c;simp only[Zb,List.map_cons];refine YS.2 ⟨fun y hy=> ?_,Im h2⟩;obtain⟨q,hq,rfl⟩:=List.mem_map.1 hy;rcases Ua hq with hq | rfl | ⟨m,hm,rfl,_⟩
   ·exact h1 _ (List.mem_map_of_mem hq)
   ·exact c
   ·exact c
  ·split
   ·split
    ·exact h2
    ·simp only[Zb,List.map_cons];exact h'
   ·rename_i c1 c2;simp only[Zb,List.map_cons];have c3:Qm t p.1 < 0:=by have:=Xh t p.1;omega
    refine YS.2 ⟨fun y hy=> ?_,h'⟩;rcases List.mem_cons.1 hy with rfl | hy
    ·exact c3
    ·exact Yv c3 (h1 y hy)
structure XT (l:List Pw) (b:Nat):Prop where
 asc:Asc (Zb l)
 nz:NZ l
 len:l.length≤b
 bd: ∀q∈l,q.1.mass < big∧ -(b:Int)≤q.2∧q.2≤b
theorem NL:XT [] 0:=⟨Asc.nil,fun q h=>by simp at h,by simp,fun q h=>by simp at h⟩
theorem XT.mono {l:List Pw} {b c:Nat} (h:XT l b) (hbc:b≤c):XT l c:=⟨h.asc,h.nz,Nat.le_trans h.len hbc,fun q hq=>by obtain⟨h1,h2,h3⟩:=h.bd q hq;exact⟨h1,by omega,by omega⟩⟩
theorem XT.add {l:List Pw} {b c:Nat} {t:Tm} {n:Int} (h:XT l b) (ht:t.mass < big) (hn:n≠0) (h1: -(c:Int)≤n) (h2:n≤c):XT (Ya l t n) (b+c):=by
 refine⟨Im h.asc,?_,?_,?_⟩
 ·intro q hq;rcases Ua hq with hq | rfl | ⟨m,hm,rfl,hz⟩
  ·exact h.nz q hq
  ·exact hn
  ·exact hz
 ·have:=Ih l t n;have:=h.len;omega
 ·intro q hq;rcases Ua hq with hq | rfl | ⟨m,hm,rfl,hz⟩
  ·obtain⟨a1,a2,a3⟩:=h.bd q hq;exact⟨a1,by omega,by omega⟩
  ·exact⟨ht,by simp;omega,by simp;omega⟩
  ·obtain⟨a1,a2,a3⟩:=h.bd _ hm;simp at a2 a3;exact⟨ht,by simp;omega,by simp;omega⟩
def uno (m:Int):Prop:=m=1∨m= -1
theorem uno.neg {m:Int} (h:uno m):uno (-m):=by rcases h with rfl | rfl <;> simp[uno]
theorem uno.ite {m:Int} (h:uno m) (c:Bool):uno (if c then -m else m):=by cases c <;> simp[h,h.neg]
theorem Oy: ∀(t:Tm) (l:List Pw) (m:Int) (b:Nat),t.mass < big→uno m→XT l b→XT (XM l t m) (b+t.nodes):=by
 refine ZD ?_;intro k n s ks ih l m b hm hu h;have hne:=YW (.mk k n s ks);have hme:=Qy (.mk k n s ks);simp only[QY,Zl]at hne hme;have hL: ∀(xs:List Tm) (l:List Pw) (m:Int) (b:Nat),(∀x∈xs,x∈ks)→uno m→XT l b→XT (colL l xs m) (b+nodesL xs):=by
  intro xs
  induction xs with
  | nil=>intro l m b _ _ h;simpa[colL,nodesL]using h
  | cons x xs IH=>
   intro l m b hx hu h;have h1:=ih x (hx x (by simp)) l m b (by have:=QF (hx x (by simp));omega) hu h;have h2:=IH _ m _ (fun y hy=>hx y (by simp[hy])) hu h1;simp only[colL,nodesL];rw[← Nat.add_assoc];exact h2
 rw[RP];split
 ·have:=hL ks l _ b (fun x hx=>hx) (hu.ite ((Tm.mk k n s ks).name == INV)) h;exact this.mono (by omega)
 ·have:XT (Ya l (.mk k n s ks) m) (b+1):=h.add (c:=1) hm (by rcases hu with rfl | rfl <;> simp) (by rcases hu with rfl | rfl <;> simp) (by rcases hu with rfl | rfl <;> simp);exact this.mono (by omega)
theorem GR {l:List Pw} {t:Tm} {m:Int} {b:Nat} (o:Bool) (bs:List (List AV)) (h:XT l b) (hb:b < 40000000) (ht:t.mass < big) (hm: -100000000 < m∧m < 100000000):
  call F.tb 257 [.sl o 5 (Qt l),.agg (Qc t),.int .i64 m] bs=some (.sl false 5 (Qt (Ya l t m)),bs):=by
 have hl:=h.len;have hp:=fun ρ=>A8 l t m bs (by omega) (fun q hq=>by obtain⟨a1,a2,a3⟩:=h.bd q hq;exact⟨a1,by omega,by omega⟩) hm ht h.asc h.nz l [] [] false ρ rfl (by simp;omega);rw[Qa F.tb_257 _ _ rfl];simp only[List.nil_append]at hp;simp[F.f257C];refine hp _ ?_ ?_ ?_ ?_ ?_ ?_ <;> simp[Qt]
def Id (l:List Pw) (bs:List (List AV)) (r:Out):Prop:=∃o,r=some (.sl o 5 (Qt l),bs)
theorem C5 (t:Tm) (bs:List (List AV)) (hm:t.mass < big) (m:Int) (hu:uno m) (ih: ∀x∈t.kids,∀l b o,XT l b→b+x.nodes < 40000000→Id (XM l x m) bs (call F.tb 256 [.sl o 5 (Qt l),.agg (Qc x),.int .i64 m] bs)):
  ∀(post pre:List Tm) (l:List Pw) (b:Nat) (o:Bool) (ρ:Nat→AV),t.kids=pre ++ post→XT l b→b+nodesL post < 40000000→ρ 0= .sl o 5 (Qt l)→ρ 2= .int .i64 m→ρ 4= .bx (Qc t)→ρ 7= .int .i64 pre.length→
  Id (colL l post m) bs (R F.tb (.loop F.f256l0) ρ bs (Qh 0 (Qq F.tb F.f256r0 (Qx F.f256 bs)))):=by
 have hm2:=Qy t;have hmb:=hm;unfold big at hm;intro post
 induction post with
 | nil=>
  intro pre l b o ρ hk hl hb h0 h2 h4 h7;simp only[List.append_nil]at hk;rw[← hk]at h7;rw[Qb F.f256l0.eq_1];refine⟨false,?_⟩;simp[h0,h2,h4,h7,F.f256r0,colL]
 | cons x post IH=>
  intro pre l b o ρ hk hl hb h0 h2 h4 h7;have hg:=Qn hk;have hll:=Qu hk;have hw1:=wr1 pre.length (by omega);have hlt:=Qv hk;have hxk:x∈t.kids:=by rw[hk];simp
  simp only[nodesL]at hb;obtain⟨o1,hc⟩:=ih x hxk l b false hl (by omega);have h3:=fun ρ=>IH (pre ++ [x]) (XM l x m) (b+x.nodes) o1 ρ (by rw[hk];simp) (Oy x l m b (by have:=QF hxk;omega) hu hl) (by omega);rw[Qb F.f256l0.eq_1];simp[h0,h2,h4,h7,hg,hlt,hw1,hc,Qf,colL];refine h3 _ ?_ ?_ ?_ ?_ <;> simp[h2,h4]
theorem QcW: ∀(t:Tm) (bs:List (List AV)) (m:Int) (l:List Pw) (b:Nat) (o:Bool),t.mass < big→uno m→XT l b→b+t.nodes < 40000000→Id (XM l t m) bs (call F.tb 256 [.sl o 5 (Qt l),.agg (Qc t),.int .i64 m] bs):=by
 refine ZD ?_;intro k n s ks ih bs m l b o hm hu hl hb;have hme:=Qy (.mk k n s ks);have hne:=YW (.mk k n s ks);simp only[QY,Zl]at hne hme;have hsp:=Tr (.mk k n s ks) bs;rw[Qa F.tb_256 _ _ rfl,RP];cases hs:XD (.mk k n s ks)
 ·have hc:=GR (t:= .mk k n s ks) (m:=m) false bs hl (by omega) hm (by rcases hu with rfl | rfl <;> simp);refine⟨false,?_⟩;simp[F.f256C,hsp,hs,hc]
 ·have h2:=fun m hu ρ=>C5 (.mk k n s ks) bs hm m hu (fun x hx l b o hl hb=>ih x hx bs m l b o (by have:=QF hx;simp at this;omega) hu hl hb) ks [] l b false ρ rfl hl (by omega);cases hi:n == INV
  ·have h3:=h2 m hu;simp only[INV]at hi;simp[F.f256C,hsp,hs,hi,INV];refine h3 _ ?_ ?_ ?_ ?_ <;> simp
  ·have h3:=h2 (-m) hu.neg;have hw:IntKind.i64.wrap (-m)= -m:=by rcases hu with rfl | rfl <;> rfl
   simp only[INV]at hi;simp[F.f256C,hsp,hs,hi,hw,INV];refine h3 _ ?_ ?_ ?_ ?_ <;> simp
def FG (B0:List (List AV)) (l:List Pw) (ok:Bool) (r:Out):Prop:=∃v B,r=some (.tup [v,.bool ok],B)∧PS B0 B v (if ok then l else [])
theorem Wy {B0 B:List (List AV)} {v:AV} {l:List Pw} (h:PS B0 B v l): ∃id sz,v= .gs id 0 sz l.length:=by
 obtain⟨M,id,sz,_,rfl,_⟩:=h;exact⟨id,sz,rfl⟩
theorem O4 {B0 B:List (List AV)} {v:AV} {l:List Pw} (h:PS B0 B v l):PS B0 B (.gs 0 0 0 0) []:=by
 obtain⟨M,id,sz,rfl,_,_⟩:=h;exact⟨M,0,0,rfl,rfl,.inl ⟨rfl,rfl,rfl⟩⟩
theorem Qao (t:Tm) (B0:List (List AV)) (hm:t.mass < big) (m:Int) (hu:uno m) (ih: ∀x∈t.kids,∀B v l b,PS B0 B v l→XT l b→b+x.nodes < 40000000→FG B0 (XM l x m) (arB x) (call F.tb 187 [v,.agg (Qc x),.int .i64 m] B)) (K:List (List AV)):
  ∀(post pre:List Tm) (l:List Pw) (b:Nat) (B:List (List AV)) (v:AV) (ρ:Nat→AV),t.kids=pre ++ post→PS B0 B v l→XT l b→b+nodesL post < 40000000→ρ 0=v→ρ 2= .int .i64 m→ρ 52= .sl false 4 (encTs t.kids)→ρ 53= .int .i64 t.kids.length→ρ 54= .int .i64 pre.length→
  FG B0 (colL l post m) (arL post) (R F.tb (.loop F.f187l0) ρ B (Qh 1 (Qq F.tb F.f187r0 (Qx F.f187 K)))):=by
 have hm2:=Qy t;have hmb:=hm;unfold big at hm;intro post
 induction post with
 | nil=>
  intro pre l b B v ρ hk hps hl hb h0 h2 h52 h53 h54;simp only[List.append_nil]at hk;rw[← hk]at h54;obtain⟨id,sz,rfl⟩:=Wy hps;rw[Qb F.f187l0.eq_1];refine⟨_,B,?_,by simpa[colL,arL]using hps⟩;simp[h0,h2,h52,h53,h54,F.f187r0,colL,arL]
 | cons x post IH=>
  intro pre l b B v ρ hk hps hl hb h0 h2 h52 h53 h54;have hg:=Qn hk;have hll:=Qu hk;have hw1:=wr1 pre.length (by omega);have hlt:=Qv hk;have hxk:x∈t.kids:=by rw[hk];simp
  simp only[nodesL]at hb;obtain⟨v2,B2,hc,hps2⟩:=ih x hxk B v l b hps hl (by omega);obtain⟨id,sz,rfl⟩:=Wy hps;obtain⟨id2,sz2,rfl⟩:=Wy hps2;rw[Qb F.f187l0.eq_1];cases ha:arB x
  ·rw[ha]at hc hps2;refine⟨.gs 0 0 0 0,B2,?_,by simpa[arL,ha]using O4 hps2⟩;simp only[Bool.false_eq_true,if_false]at hc;simp[h0,h2,h52,h53,h54,hg,hlt,hc,Qf,arL,ha]
  ·rw[ha]at hc hps2;simp only[if_true]at hc hps2;have h3:=fun ρ=>IH (pre ++ [x]) (XM l x m) (b+x.nodes) B2 _ ρ (by rw[hk];simp) hps2 (Oy x l m b (by have:=QF hxk;omega) hu hl) (by omega);have e1:colL l (x:: post) m=colL (XM l x m) post m:=by simp[colL]
   have e2:arL (x:: post)=arL post:=by simp[arL,ha]
   rw[e1,e2];simp[h0,h2,h52,h53,h54,hg,hlt,hw1,hc,Qf];refine h3 _ ?_ ?_ ?_ ?_ ?_ <;> simp[h2,h52,h53]
theorem QcF: ∀(t:Tm) (B0 B:List (List AV)) (v:AV) (l:List Pw) (m:Int) (b:Nat),t.mass < big→uno m→PS B0 B v l→XT l b→b+t.nodes < 40000000→FG B0 (XM l t m) (arB t) (call F.tb 187 [v,.agg (Qc t),.int .i64 m] B):=by
 refine ZD ?_;intro k n s ks ih B0 B v l m b hm hu hps hl hb;have hme:=Qy (.mk k n s ks);have hne:=YW (.mk k n s ks);simp only[QY,Zl]at hne hme;have hsp:=P6 (.mk k n s ks) B;obtain⟨id,sz,rfl⟩:=Wy hps;rw[Qa F.tb_187 _ _ rfl,RP,Bb];cases hs:XD (.mk k n s ks)
 ·obtain⟨v2,B2,hc,hps2⟩:=GN (p:=(.mk k n s ks,m)) hps (by have:=hl.len;omega) (fun q hq=>by obtain⟨a1,a2,a3⟩:=hl.bd q hq;exact⟨a1,by omega,by omega⟩) hm (by rcases hu with rfl | rfl <;> simp) hl.asc;obtain⟨id2,sz2,rfl⟩:=Wy hps2;have hf:Qc (.mk k n s ks)++ [.int .i64 m]=QT (.mk k n s ks,m):=rfl;refine⟨_,B2,?_,by simpa using hps2⟩;simp[F.f187C,hsp,hs,List.take_append,List.drop_append,hf,hc]
 ·have h2:=fun m hu ρ=>Qao (.mk k n s ks) B0 hm m hu (fun x hx B v l b hps hl hb=>ih x hx B0 B v l m b (by have:=QF hx;simp at this;omega) hu hps hl hb) B ks [] l b B _ ρ rfl hps hl (by omega);obtain⟨rfl,hn⟩:=HK hs;simp only[Zl]at hn;simp only[QY]at h2;simp only[Bool.not_true,Bool.false_or,if_true];rcases hn with rfl | rfl | rfl
  ·have h3:=h2 m hu;by_cases d:ks.length < 2
   ·have d': (ks.length:Int) < 2:=by omega
    have hc:Xi (.mk 3 MUL s ks)=false:=by simp[Xi,d]
    refine⟨.gs 0 0 0 0,B,?_,by simpa[hc]using O4 hps⟩;simp only[hc];simp[MUL]at hsp hs hc;simp[F.f187C,hsp,hs,MUL,d']
   ·have d': ¬(ks.length:Int) < 2:=by omega
    have hc:Xi (.mk 3 MUL s ks)=true:=by simp[Xi,d];simp[MUL,INV,ONE]
    have e: ((Tm.mk 3 MUL s ks).name == INV)=false:=by simp[MUL,INV]
    rw[e];simp only[hc,Bool.true_and,QY,Bool.false_eq_true,if_false];simp[MUL]at hsp hs;simp[F.f187C,hsp,hs,MUL,d'];refine h3 _ ?_ ?_ ?_ ?_ ?_ <;> simp
  ·have h3:=h2 (-m) hu.neg;have hw:IntKind.i64.wrap (-m)= -m:=by rcases hu with rfl | rfl <;> rfl
   by_cases d:ks.length=1
   ·have d': (ks.length:Int)=1:=by omega
    have hc:Xi (.mk 3 INV s ks)=true:=by simp[Xi,d];simp[MUL,INV,ONE]
    have e: ((Tm.mk 3 INV s ks).name == INV)=true:=by simp
    rw[e];simp only[hc,Bool.true_and,QY,if_true];simp[INV]at hsp hs;simp[F.f187C,hsp,hs,INV,d',hw];refine h3 _ ?_ ?_ ?_ ?_ ?_ <;> simp[d]
   ·have d': ¬(ks.length:Int)=1:=by omega
    have hc:Xi (.mk 3 INV s ks)=false:=by simp[Xi,d]
    refine⟨.gs 0 0 0 0,B,?_,by simpa[hc]using O4 hps⟩;simp only[hc];simp[INV]at hsp hs hc;simp[F.f187C,hsp,hs,INV,d']
  ·have h3:=h2 m hu;by_cases d:ks=[]
   ·subst d;have hc:Xi (.mk 3 ONE s [])=true:=by simp[Xi];simp[MUL,INV,ONE]
    have e: ((Tm.mk 3 ONE s []).name == INV)=false:=by simp[ONE,INV]
    rw[e];simp only[hc,Bool.true_and,QY,Bool.false_eq_true,if_false];simp[ONE]at hsp hs;simp[F.f187C,hsp,hs,ONE];refine h3 _ ?_ ?_ ?_ ?_ ?_ <;> simp
   ·have d0: ¬ks.length=0:=fun e=>d (List.eq_nil_of_length_eq_zero e);have d': ¬(ks.length:Int)=0:=by omega
    have hc:Xi (.mk 3 ONE s ks)=false:=by simp[Xi,d]
    refine⟨.gs 0 0 0 0,B,?_,by simpa[hc]using O4 hps⟩;simp only[hc];simp[ONE]at hsp hs hc;simp[F.f187C,hsp,hs,ONE,d,d']
def ofE (t:Tm):Int:=if QK t≠0 then QK t else if arB t then(if 200 < (XM [] t 1).length then 3 else 0)else 6
def ofP (t:Tm):List Pw:=if ofE t=0 then XM [] t 1 else []
theorem Ta (t:Tm) (bs:List (List AV)) (hm:t.mass < 30000000):call F.tb 253 [.agg (Qc t)] bs=some (.tup [.sl false 5 (Qt (ofP t)),.int .i64 (ofE t)],bs):=by
 have hmb:t.mass < big:=by unfold big;omega
 have hnm:=ZK t;have h1:=Xf t bs hmb;have h2:=F8 t bs hmb;obtain⟨o,h3⟩:=QcW t bs 1 [] 0 true hmb (.inl rfl) NL (by omega);have h3':call F.tb 256 [.sl true 5 [],.agg (Qc t),.int .i64 1] bs=some (.sl o 5 (Qt (XM [] t 1)),bs):=h3;rw[Qa F.tb_253 _ _ rfl];by_cases hv:QK t=0
 ·cases ha:arB t
  ·simp[F.f253C,h1,h2,hv,ha,ofE,ofP,Qt]
  ·by_cases hl:200 < (XM [] t 1).length
   ·have hl': (200:Int) < ((XM [] t 1).length:Int):=by omega
    simp[F.f253C,h1,h2,h3',hv,ha,ofE,ofP,hl,hl'];simp[Qt]
   ·have hl': ¬(200:Int) < ((XM [] t 1).length:Int):=by omega
    simp[F.f253C,h1,h2,h3',hv,ha,ofE,ofP,hl,hl']
 ·simp[F.f253C,h1,hv,ofE,ofP,Qt]
theorem QhE {B0 B:List (List AV)} {v:AV} {l:List Pw} (h:PS B0 B v l) (n:Nat): ∃o M2,∀ρ:Nat→AV,ρ n=v→ZO {env:=ρ,bs:=B} n 5=some (.sl o 5 (Qt l),{env:=upd ρ n .undef,bs:=B0 ++ M2}):=by
 obtain⟨M,id,sz,rfl,rfl,hc⟩:=h;rcases hc with⟨rfl,rfl,rfl⟩ | ⟨rfl,hid,t,hb,hne⟩
 ·exact⟨true,M,fun ρ hn=>by simp[ZO,hn,Qt]⟩
 ·by_cases hl:l.length=0
  ·have:l=[]:=List.eq_nil_of_length_eq_zero hl;subst this;exact⟨false,M,fun ρ hn=>by simp[ZO,hn,Qt]⟩
  ·refine⟨true,M.set (id - B0.length) [],fun ρ hn=> ?_⟩;have hle:0+l.length*5≤(QB l ++ t).length:=by rw[List.length_append,Yt];omega
   have hch:ZL (QB l ++ t) 0 5 l.length=Qt l:=YX (f:=QT) (k:=5) Xr X1 l t;simp only[ZO,hn];rw[if_pos ⟨trivial,by omega⟩,if_neg hl,hb];simp only[Option.bind_some];rw[if_pos hle,hch,YI hid];rfl
theorem U9 (t:Tm) (bs:List (List AV)) (hm:t.mass < 30000000):call F.tb 186 [.agg (Qc t)] bs=some (.tup [.sl false 5 (Qt (ofP t)),.int .i64 (ofE t)],bs):=by
 have hmb:t.mass < big:=by unfold big;omega
 have hnm:=ZK t;have h1:=XZ t bs hmb;obtain⟨v,B,hc,hps⟩:=QcF t bs bs (.gs 0 0 0 0) [] 1 0 hmb (.inl rfl) (B5 bs) NL (by omega);obtain⟨id,sz,rfl⟩:=Wy hps;obtain⟨M,hM⟩: ∃M,B=bs ++ M:=by obtain⟨M,_,_,h,_⟩:=hps;exact⟨M,h⟩
 have hgn:=Pi (XM [] t 1);rw[Qa F.tb_186 _ _ rfl];by_cases hv:QK t=0
 ·cases ha:arB t
  ·rw[ha]at hc hps;simp only[Bool.false_eq_true,if_false]at hc;simp[F.f186C,h1,hv,hc,ha,ofE,ofP,Qt,hM]
  ·rw[ha]at hc hps;simp only[if_true]at hc hps;by_cases hl:200 < (XM [] t 1).length
   ·have hl': (200:Int) < ((XM [] t 1).length:Int):=by omega
    simp[F.f186C,h1,hv,hc,ha,ofE,ofP,hl,hl',hM];simp[Qt]
   ·have hl': ¬(200:Int) < ((XM [] t 1).length:Int):=by omega
    obtain⟨o,M2,hf⟩:=QhE hps 24;simp[F.f186C,h1,hv,hc,ha,ofE,ofP,hl,hl',hf]
 ·simp[F.f186C,h1,hv,ofE,ofP,Qt]
def gtO (prev:Option Tm) (t:Tm):Bool:=match prev with
 | none=>true
 | some q=>decide (Qm q t < 0)
def YH (n:Int):Bool:=decide (n < -1000) || decide (1000 < n)
def vPL:Option Tm→List Pw→Int
 | _,[]=>0
 | prev,p:: r=>if QK p.1≠0 then QK p.1 else if XD p.1 then 1 else if p.2=0∨YH p.2=true then 7 else if gtO prev p.1 then vPL (some p.1) r else 5
def Ze (l:List Pw):Int:=if 200 < l.length then 3 else vPL none l
def Mu (l:List Pw):Option Tm:=l.getLast?.map (·.1)
theorem LT:Mu []=none:=rfl
theorem TX (l:List Pw) (p:Pw):Mu (l ++ [p])=some p.1:=by simp[Mu]
theorem Dl (l:List Pw) (bs:List (List AV)) (hl:l.length < 100000000) (hm: ∀q∈l,q.1.mass < big):
  ∀(post pre:List Pw) (o:Bool) (ρ:Nat→AV),l=pre ++ post→ρ 0= .sl o 5 (Qt l)→ρ 9= .sl false 5 (Qt l)→ρ 10= .int .i64 l.length→ρ 11= .int .i64 pre.length→
  R F.tb (.loop F.f197l0) ρ bs (Qh 0 (Qq F.tb F.f197r0 (Qx F.f197 bs)))=some (.int .i64 (vPL (Mu pre) post),bs):=by
 intro post
 induction post with
 | nil=>
  intro pre o ρ hk h0 h9 h10 h11;simp only[List.append_nil]at hk;rw[← hk]at h11;rw[Qb F.f197l0.eq_1];simp[h0,h9,h10,h11,F.f197r0,vPL]
 | cons p post IH=>
  intro pre o ρ hk h0 h9 h10 h11;have hg:=Qn hk;have hll:=Qu hk;have hw1:=wr1 pre.length (by omega);have hlt:=Qv hk;have hmp:=hm p (by rw[hk];simp);have h1:=XZ p.1 bs hmp;have h2:=P6 p.1 bs;have h3:=fun ρ=>IH (pre ++ [p]) o ρ (by rw[hk];simp);rw[TX]at h3;rw[Qb F.f197l0.eq_1];by_cases c1:QK p.1=0
  ·cases c2:XD p.1
   ·by_cases c3:p.2=0
    ·simp[h0,h9,h10,h11,hg,hlt,h1,h2,c1,c2,c3,vPL]
    ·by_cases c4:p.2 < -1000
     ·simp[h0,h9,h10,h11,hg,hlt,h1,h2,c1,c2,c3,c4,vPL,YH]
     ·by_cases c5:1000 < p.2
      ·simp[h0,h9,h10,h11,hg,hlt,h1,h2,c1,c2,c3,c4,c5,vPL,YH]
      ·rcases List.eq_nil_or_concat pre with rfl | ⟨pre2,q,rfl⟩
       ·have h11':ρ 11= .int .i64 0:=h11;have hg':l[0]? =some p:=hg;have hlt':0 < l.length:=by omega
        have hw0:IntKind.i64.wrap 1=1:=rfl;clear h11 hg hlt hw1;simp[-getElem?_pos,h0,h9,h10,h11',hg',hlt',hw0,h1,h2,c1,c2,c3,c4,c5,vPL,YH,LT,gtO];refine h3 _ ?_ ?_ ?_ ?_ <;> simp[h0,h9,h10]
       ·have hg2:l[pre2.length]? =some q:=by rw[hk];simp
        have hq:=hm q (by rw[hk];simp);have h4:=call_Compare q.1 p.1 bs hq hmp;have hp0: (0:Int) < (pre2.length:Int)+1:=by omega
        have hp1: (0:Int)≤(pre2.length:Int)+1:=by omega
        have hp2: ((pre2.length:Int)+1).toNat=pre2.length+1:=by omega
        have hw2:IntKind.i64.wrap (pre2.length:Int)=(pre2.length:Int):=QW (by simp at hll;omega) (by simp at hll;omega);simp only[List.concat_eq_append]at *;rw[TX];simp only[List.length_append,List.length_singleton,Int.natCast_add,Int.natCast_one]at h11 hg hlt hw1 h3;by_cases c6:Qm q.1 p.1 < 0
        ·have c6': ¬0≤Qm q.1 p.1:=by omega
         simp[h0,h9,h10,h11,hg,hg2,hlt,hw1,hw2,hp0,hp1,hp2,h1,h2,h4,c1,c2,c3,c4,c5,c6,c6',vPL,YH,gtO];refine h3 _ ?_ ?_ ?_ ?_ <;> simp[h0,h9,h10]
        ·have c6':0≤Qm q.1 p.1:=by omega
         simp[h0,h9,h10,h11,hg,hg2,hlt,hw1,hw2,hp0,hp1,hp2,h1,h2,h4,c1,c2,c3,c4,c5,c6,c6',vPL,YH,gtO]
   ·simp[h0,h9,h10,h11,hg,hlt,h1,h2,c1,c2,vPL]
  ·simp[h0,h9,h10,h11,hg,hlt,h1,h2,c1,vPL]
theorem RM (l:List Pw) (o:Bool) (bs:List (List AV)) (hl:l.length < 100000000) (hm: ∀q∈l,q.1.mass < big):call F.tb 197 [.sl o 5 (Qt l)] bs=some (.int .i64 (Ze l),bs):=by
 have h:=fun ρ=>Dl l bs hl hm l [] false ρ rfl;rw[Qa F.tb_197 _ _ rfl];by_cases c:200 < l.length
 ·have c': (200:Int) < (l.length:Int):=by omega
  simp[F.f197C,c,c',Ze]
 ·have c': ¬(200:Int) < (l.length:Int):=by omega
  simp[F.f197C,c,c',Ze];refine h _ ?_ ?_ ?_ ?_ <;> simp
theorem HP (l:List Pw) (bs:List (List AV)) (hl:l.length < 100000000) (hm: ∀q∈l,q.1.mass < big):
  ∀(post pre:List Pw) (o:Bool) (ρ:Nat→AV),l=pre ++ post→ρ 0= .sl o 5 (Qt l)→ρ 3= .int .i64 pre.length→
  R F.tb (.loop F.f259l0) ρ bs (Qh 0 (Qq F.tb F.f259r0 (Qx F.f259 bs)))=some (.int .i64 (vPL (Mu pre) post),bs):=by
 intro post
 induction post with
 | nil=>
  intro pre o ρ hk h0 h3;simp only[List.append_nil]at hk;rw[← hk]at h3;rw[Qb F.f259l0.eq_1];simp[h0,h3,F.f259r0,vPL]
 | cons p post IH=>
  intro pre o ρ hk h0 h3;have hg:=Qn hk;have hll:=Qu hk;have hw1:=wr1 pre.length (by omega);have hlt:=Qv hk;have hmp:=hm p (by rw[hk];simp);have h1:=Xf p.1 bs hmp;have h2:=Tr p.1 bs;have hh:=fun ρ=>IH (pre ++ [p]) o ρ (by rw[hk];simp);rw[TX]at hh;rw[Qb F.f259l0.eq_1];by_cases c1:QK p.1=0
  ·cases c2:XD p.1
   ·by_cases c3:p.2=0
    ·simp[h0,h3,hg,hlt,h1,h2,c1,c2,c3,vPL]
    ·by_cases c4:p.2 < -1000
     ·simp[h0,h3,hg,hlt,h1,h2,c1,c2,c3,c4,vPL,YH]
     ·by_cases c5:1000 < p.2
      ·simp[h0,h3,hg,hlt,h1,h2,c1,c2,c3,c4,c5,vPL,YH]
      ·rcases List.eq_nil_or_concat pre with rfl | ⟨pre2,q,rfl⟩
       ·have h3':ρ 3= .int .i64 0:=h3;have hg':l[0]? =some p:=hg;have hlt':0 < l.length:=by omega
        have hw0:IntKind.i64.wrap 1=1:=rfl;clear h3 hg hlt hw1;simp[-getElem?_pos,h0,h3',hg',hlt',hw0,h1,h2,c1,c2,c3,c4,c5,vPL,YH,LT,gtO];refine hh _ ?_ ?_ <;> simp[h0]
       ·have hg2:l[pre2.length]? =some q:=by rw[hk];simp
        have hq:=hm q (by rw[hk];simp);have h4:=WG q.1 p.1 bs hq hmp;have hp0: (0:Int) < (pre2.length:Int)+1:=by omega
        have hp1: (0:Int)≤(pre2.length:Int)+1:=by omega
        have hp2: ((pre2.length:Int)+1).toNat=pre2.length+1:=by omega
        have hw2:IntKind.i64.wrap (pre2.length:Int)=(pre2.length:Int):=QW (by simp at hll;omega) (by simp at hll;omega);simp only[List.concat_eq_append]at *;rw[TX];simp only[List.length_append,List.length_singleton,Int.natCast_add,Int.natCast_one]at h3 hg hlt hw1 hh;by_cases c6:Qm q.1 p.1 < 0
        ·have c6': ¬0≤Qm q.1 p.1:=by omega
         simp[h0,h3,hg,hg2,hlt,hw1,hw2,hp0,hp1,hp2,h1,h2,h4,c1,c2,c3,c4,c5,c6,c6',vPL,YH,gtO];refine hh _ ?_ ?_ <;> simp[h0]
        ·have c6':0≤Qm q.1 p.1:=by omega
         simp[h0,h3,hg,hg2,hlt,hw1,hw2,hp0,hp1,hp2,h1,h2,h4,c1,c2,c3,c4,c5,c6,c6',vPL,YH,gtO]
   ·simp[h0,h3,hg,hlt,h1,h2,c1,c2,vPL]
  ·simp[h0,h3,hg,hlt,h1,h2,c1,vPL]
theorem RN (l:List Pw) (o:Bool) (bs:List (List AV)) (hl:l.length < 100000000) (hm: ∀q∈l,q.1.mass < big):call F.tb 259 [.sl o 5 (Qt l)] bs=some (.int .i64 (Ze l),bs):=by
 have h:=fun ρ=>HP l bs hl hm l [] false ρ rfl;rw[Qa F.tb_259 _ _ rfl];by_cases c:200 < l.length
 ·have c': (200:Int) < (l.length:Int):=by omega
  simp[F.f259C,c,c',Ze]
 ·have c': ¬(200:Int) < (l.length:Int):=by omega
  simp[F.f259C,c,c',Ze];refine h _ ?_ ?_ <;> simp
theorem MO: ∀(l:List Pw) (prev:Option Tm),vPL prev l=0→(∀q∈l,QK q.1=0∧XD q.1=false∧q.2≠0∧ -1000≤q.2∧q.2≤1000)∧Asc (Zb l)∧(∀a,prev=some a→∀q∈l,Qm a q.1 < 0)
 | [],prev,_=>⟨fun q h=>by simp at h,Asc.nil,fun a _ q h=>by simp at h⟩
 | p:: r,prev,h=>by
  simp only[vPL]at h;split at h
  ·rename_i c;exact absurd h c
  rename_i c1;split at h
  ·cases h
  rename_i c2;split at h
  ·cases h
  rename_i c3;split at h
  ·rename_i c4;obtain⟨h1,h2,h3⟩:=MO r (some p.1) h;have hpr:=h3 p.1 rfl;refine⟨fun q hq=> ?_,?_,?_⟩
   ·rcases List.mem_cons.1 hq with rfl | hq
    ·simp[YH]at c3;exact⟨by simpa using c1,by simpa using c2,c3.1,c3.2.1,c3.2.2⟩
    ·exact h1 q hq
   ·simp only[Zb,List.map_cons];refine YS.2 ⟨fun y hy=> ?_,h2⟩;obtain⟨q,hq,rfl⟩:=List.mem_map.1 hy;exact hpr q hq
   ·intro a ha q hq;subst ha;have c5:Qm a p.1 < 0:=by simpa[gtO]using c4
    rcases List.mem_cons.1 hq with rfl | hq
    ·exact c5
    ·exact Yv c5 (hpr q hq)
  ·cases h
theorem WB {l:List Pw} (h:Ze l=0) (hm: ∀q∈l,q.1.mass < big):XT l 1000∧l.length≤200∧∀q∈l,QK q.1=0∧XD q.1=false:=by
 unfold Ze at h;split at h
 ·cases h
 ·obtain⟨h1,h2,_⟩:=MO l none h;exact⟨⟨h2,fun q hq=>(h1 q hq).2.2.1,by omega,fun q hq=>⟨hm q hq,(h1 q hq).2.2.2.1,(h1 q hq).2.2.2.2⟩⟩,by omega,fun q hq=>⟨(h1 q hq).1,(h1 q hq).2.1⟩⟩
end Go.Am
