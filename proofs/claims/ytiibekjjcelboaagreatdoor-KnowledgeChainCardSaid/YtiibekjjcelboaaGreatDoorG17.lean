/-
  Rc13, Rc14, Rc15, Rc16, Rc17.
-/
import Derived.Test.YtiibekjjcelboaaGreatDoorG16
set_option linter.unusedVariables false
set_option linter.unusedSimpArgs false
namespace Go.Am
set_option maxRecDepth 8000
theorem HM (t:Tm) (hm:t.mass < big) (hne:t.kids≠[]) (ih: ∀x∈t.kids,∀bs,call F.tb 192 [.agg (Qb x)] bs=some (.agg (Qb x),bs)) (B:List (List AV)):
  ∀(post pre:List Tm) (ρ:Nat→AV),t.kids=pre ++ post→ρ 1= .bx [.int .i64 t.kind,.str t.name,.int .i64 t.sort,.gs B.length 0 4 t.kids.length]→ρ 2= .bx [.int .i64 0,.str [],.int .i64 0,.sl true 4 []]→
   ρ 10= .gs B.length 0 4 t.kids.length→ρ 11= .int .i64 t.kids.length→ρ 12= .int .i64 pre.length→
  R F.tb (.loop F.f192l0) ρ (B ++ [Qf t.kids]) (Qj 0 (Qu F.tb F.f192r0 (Qx F.f192 B)))=some (.agg (Qb t),B):=by
 have hm2:=Qp t;unfold big at hm;have es: ∀x y:List AV,(B ++ [x]).set B.length y=B ++ [y]:=fun x y=>by rw[List.set_append];simp
 have eg: ∀x:List AV,(B ++ [x])[B.length]? =some x:=fun x=>List.getElem?_concat_length;have hlen: (Qf t.kids).length=t.kids.length*4:=Q8 Qk _;have hst: (Qf t.kids).map AV.strip=Qf t.kids:=Zl QL _;intro post
 induction post with
 | nil=>
  intro pre ρ hk h1 h2 h10 h11 h12;simp only[List.append_nil]at hk;rw[← hk]at h12;have hch:Q5 (Qf t.kids) 0 4 t.kids.length=encTs t.kids:=by
   have:=Yv (f:=Qb) (k:=4) Qk QL t.kids [];rw[Wu,List.append_nil]at this;exact this
  have hz: ¬t.kids.length=0:=fun e=>hne (List.eq_nil_of_length_eq_zero e);rw[Qc F.f192l0.eq_1];simp[h1,h2,h10,h11,h12,F.f192r0,hz,hne,hlen,hch,es,eg,WO,Tm.eta]
 | cons x post IH=>
  intro pre ρ hk h1 h2 h10 h11 h12;have hl:=QE hk;have hw1:=wr1 pre.length (by omega);have hlt:=QF hk;have hlt':pre.length < t.kids.length:=by omega
  have r1: ((Qf t.kids).drop (pre.length*4)).take 4=Qb x:=by
   have:=Xc (f:=Qb) (k:=4) Qk hk [];simpa using this
  have hput: (Qf t.kids).take (pre.length*4)++ (Qb x ++ (Qf t.kids).drop (pre.length*4+4))=Qf t.kids:=by
   have:=Th (f:=Qb) (k:=4) Qk x hk [];rw[← hk]at this;simpa using this
  have hle:pre.length*4+4≤t.kids.length*4:=by omega
  have hc:=ih x (by rw[hk];simp);have h2':=IH (pre ++ [x]);rw[Qc F.f192l0.eq_1];generalize Qf t.kids=c at *;simp[h1,h2,h10,h11,h12,hw1,hlt,hlt',eg,es,hlen,hle,hst,r1,hc,hput];refine h2' _ (by rw[hk];simp) ?_ ?_ ?_ ?_ ?_ <;> simp[h1,h2,h10,h11]
theorem Ux: ∀(t:Tm) (bs:List (List AV)),t.mass < big→call F.tb 192 [.agg (Qb t)] bs=some (.agg (Qb t),bs):=by
 refine ZG ?_;intro k n s ks ih bs hm;have hme:=Qp (.mk k n s ks);simp only[Q0,ZH]at hme;have hb:ks.length*56≤140737488355328:=by unfold big at hm;omega
 rw[Qa F.tb_192 _ _ rfl];have ho:call F.tb 193 [.sl false 4 (encTs ks)] bs=if ks.length=0 then some (.gs 0 0 0 0,bs)else some (.gs bs.length 0 4 ks.length,bs ++ [Qf ks]):=by
  have hst: (Qf ks).map AV.strip=Qf ks:=Zl QL _;rw[ZP F.tb_193];simp only[Yc,if_true,Xp,YJ,hb,encTs_gp,NQ,hst]
 by_cases hk:ks=[]
 ·subst hk;simp[F.f192C,Q6,encTs]at ho ⊢;simp[ho];rw[Qc F.f192l0.eq_1];simp[F.f192r0]
 ·have hz: ¬ks.length=0:=fun e=>hk (List.eq_nil_of_length_eq_zero e);rw[if_neg hz]at ho;have hl:=fun ρ=>HM (.mk k n s ks) hm hk (fun x hx bs=>ih x hx bs (by have:=QC (show x∈ks from hx);omega)) bs ks [] ρ rfl;simp only[W2,ZH,Uq,Q0]at hl;simp[F.f192C];simp[Q6,ho];have e:AV.agg [.int .i64 k,.str n,.int .i64 s,.sl false 4 (encTs ks)]= .agg (Qb (.mk k n s ks)):=by rw[Q6];rfl
  rw[e];refine hl _ ?_ ?_ ?_ ?_ ?_ <;> simp
abbrev Pw:=Tm×Int
def Qw (p:Pw):List AV:=Qb p.1 ++ [.int .i64 p.2]
def Qr (l:List Pw):List (List AV):=l.map Qw
abbrev QM (l:List Pw):List AV:=ZA Qw l
theorem Gh (p:Pw):Qw p=[.int .i64 p.1.kind,.str p.1.name,.int .i64 p.1.sort,.sl false 4 (encTs p.1.kids),.int .i64 p.2]:=by simp[Qw,Q6]
@[simp] theorem Z2 (p:Pw): (Qw p).length=5:=by simp[Qw]
@[simp] theorem Yr (p:Pw): (Qw p).map AV.strip=Qw p:=by simp[Qw]
@[simp] theorem Qhy (p:Pw): (Qw p).take 4=Qb p.1:=by simp[Qw]
@[simp] theorem Qhz (p:Pw): (Qw p).take 5=Qw p:=List.take_of_length_le (by simp)
@[simp] theorem QiL (p:Pw): (Qw p)[4]? =some (.int .i64 p.2):=by simp[Qw]
@[simp] theorem QiB (p:Pw) (h:4 < (Qw p).length): (Qw p)[4]= .int .i64 p.2:=by simp[Qw]
@[simp] theorem Qhx (p:Pw): (Qw p).drop 5=[]:=by simp[Qw,List.drop_append]
@[simp] theorem Gi (p:Pw):gpfreeL (Qw p)=true:=by simp[Qw,UA]
@[simp] theorem QhW (l:List Pw): (Qr l).length=l.length:=by simp[Qr]
@[simp] theorem QhV (l:List Pw) (i:Nat): (Qr l)[i]? =(l[i]?).map Qw:=by simp[Qr]
theorem VC (a b:List Pw):Qr a ++ Qr b=Qr (a ++ b):=by simp[Qr]
theorem VD (p:Pw): [Qw p]=Qr [p]:=rfl
@[simp] theorem RB: ∀l:List Pw,gpfreeE (Qr l)=true
 | []=>rfl
 | p:: l=>by
  have:=RB l;simp only[Qr]at this ⊢;simp[gpfreeE,this]
theorem YN (l:List Pw): (QM l).length=l.length*5:=Q8 Z2 l
theorem HW (p:Pw) (t:Tm) (B:List (List AV)) (hp:p.1.mass < big) (ht:t.mass < big):call F.tb 190 [.agg (Qw p),.agg (Qb t)] B=some (.int .i64 (Qh p.1 t),B):=by
 have h:=call_Compare p.1 t B hp ht;rw[Qa F.tb_190 _ _ rfl];simp[F.f190,F.f190C,h]
def ZR (l:List Pw):List Tm:=l.map (·.1)
def PAt (l:List Pw) (t:Tm) (k:Nat):Prop:=k≤l.length∧(∀(i:Nat) (p:Pw),l[i]? =some p→i < k→Qh p.1 t < 0)∧(∀(i:Nat) (p:Pw),l[i]? =some p→k≤i→¬Qh p.1 t < 0)
def hit (l:List Pw) (t:Tm) (k:Nat):Bool:=match l[k]? with
 | some p=>decide (Qh p.1 t=0)
 | none=>false
def QfL (l:List Pw) (t:Tm) (B:List (List AV)) (r:Out):Prop:=∃k,PAt l t k∧r=some (.tup [.int .i64 k,.bool (hit l t k)],B)
theorem MP {l:List Pw} {i:Nat} {p:Pw} {c:List AV} (h: (c.drop (i*5)).take 5=Qw p): ((c.map AV.strip).drop (i*5)).take 5=Qw p:=by
 rw[← List.map_drop,← List.map_take,h,Yr]
theorem P3 {l:List Pw} {i:Nat} {p:Pw} (h:l[i]? =some p) (c:List AV): ((QM l ++ c).drop (i*5)).take 5=Qw p:=by
 obtain⟨hi,rfl⟩:=List.getElem?_eq_some_iff.1 h;have hl:l=l.take i ++ l[i]:: l.drop (i+1):=by rw[List.getElem_cons_drop,List.take_append_drop]
 have:=Xc (f:=Qw) (k:=5) Z2 hl c;rw[List.length_take,Nat.min_eq_left (by omega)]at this;exact this
theorem NY {i j:Nat} (h:i+j < 9223372036854775808):IntKind.i64.wrap (IntKind.u64.wrap (IntKind.i64.wrap ((i:Int)+ (j:Int))) / 2 ^ min 1 IntKind.u64.bits)=(((i+j) / 2:Nat):Int):=by
 rw[QB (n:=(i:Int)+j) (by omega) (by omega)];have h1:IntKind.u64.wrap ((i:Int)+j)=(i:Int)+j:=by
  simp[IntKind.wrap,IntKind.bits,IntKind.signed];omega
 have h2: (2:Int) ^ min 1 IntKind.u64.bits=2:=by decide
 rw[h1,h2,QB (by omega) (by omega)];omega
theorem Qa3 {l:List Pw} {t:Tm} {B:List (List AV)} {id sz:Nat} {c:List AV} (hl:l.length < 100000000) (hb:l≠[]→sz=5∧B[id]? =some (QM l ++ c)) (hm: ∀p∈l,p.1.mass < big) (ht:t.mass < big) (ha:Asc (ZR l)):
  ∀(d i j:Nat) (ρ:Nat→AV),j - i≤d→i≤j→j≤l.length→(∀(k:Nat) (p:Pw),l[k]? =some p→k < i→Qh p.1 t < 0)→(∀(k:Nat) (p:Pw),l[k]? =some p→j≤k→¬Qh p.1 t < 0)→
  ρ 0= .gs id 0 sz l.length→ρ 4= .bx (Qb t)→ρ 2= .fn 190 []→ρ 8= .int .i64 l.length→ρ 9= .int .i64 i→ρ 10= .int .i64 j→
  QfL l t B (R F.tb (.loop F.f191l0) ρ B (Qj 0 (Qu F.tb F.f191r0 (Qx F.f191 B)))):=by
 have mono: ∀(i j:Nat) (p q:Pw),l[i]? =some p→l[j]? =some q→i≤j→Qh q.1 t < 0→Qh p.1 t < 0:=by
  intro i j p q hp hq hij h;rcases Nat.lt_or_ge i j with hlt | hge
  ·obtain⟨h1,rfl⟩:=List.getElem?_eq_some_iff.1 hp;obtain⟨h2,rfl⟩:=List.getElem?_eq_some_iff.1 hq;have:=List.pairwise_iff_getElem.1 ha i j (by simpa[ZR]using h1) (by simpa[ZR]using h2) hlt;simp only[ZR,List.getElem_map]at this;exact Z0 this h
  ·have:i=j:=by omega
   subst this;rw[hp]at hq;injection hq with hq;subst hq;exact h
 intro d
 induction d with
 | zero=>
  intro i j ρ hd hij hj hlo hhi h0 h4 h2 h8 h9 h10;have:i=j:=by omega
  subst this;refine⟨i,⟨hj,hlo,hhi⟩,?_⟩;rw[Qc F.f191l0.eq_1];by_cases c1:i < l.length
  ·have hp:=List.getElem?_eq_getElem c1;obtain⟨rfl,hbx⟩:=hb (by intro e;subst e;simp at c1);have r1:=MP (l:=l) (P3 hp c);have hmp:=hm _ (List.getElem_mem c1);have hle:i*5+5≤(QM l ++ c).length:=by rw[List.length_append,YN];omega
   have c1': (i:Int) < (l.length:Int):=by omega
   have hh:hit l t i=decide (Qh l[i].1 t=0):=by simp[hit,hp]
   rw[hh];generalize l[i]=p at *;have h3:=HW p t B hmp ht;generalize QM l ++ c=cc at *;simp[F.f191r0,h0,h2,h4,h8,h9,h10,c1,c1',hbx,hle,r1,h3]
  ·have hh:hit l t i=false:=by simp[hit,List.getElem?_eq_none (Nat.le_of_not_lt c1)]
   have c1': ¬(i:Int) < (l.length:Int):=by omega
   simp[F.f191r0,h0,h2,h4,h8,h9,h10,c1,c1',hh]
 | succ d IH=>
  intro i j ρ hd hij hj hlo hhi h0 h4 h2 h8 h9 h10;by_cases hlt:i < j
  ·have hmn: (i+j) / 2 < l.length:=by omega
   have hw:=NY (i:=i) (j:=j) (by omega);have hp:=List.getElem?_eq_getElem hmn;obtain⟨rfl,hbx⟩:=hb (by intro e;subst e;simp at hmn);have r1:=MP (l:=l) (P3 hp c);have hmp:=hm _ (List.getElem_mem hmn);have hle: (i+j) / 2*5+5≤(QM l ++ c).length:=by rw[List.length_append,YN];omega
   have hltI: (i:Int) < (j:Int):=by omega
   have hb1:i≤(i+j) / 2:=by omega
   have hb2: (i+j) / 2 < j:=by omega
   generalize l[(i+j) / 2]=p at *;generalize hmm: (i+j) / 2=m at *;have h3:=HW p t B hmp ht;have hw1:IntKind.i64.wrap ((m:Int)+1)=((m+1:Nat):Int):=by rw[QB (by omega) (by omega)];omega
   have c1': (m:Int) < (l.length:Int):=by omega
   generalize hcc:QM l ++ c=cc at *;rw[Qc F.f191l0.eq_1];by_cases cc1:Qh p.1 t < 0
   ·have ih:=fun ρ=>IH (m+1) j ρ (by omega) (by omega) hj (fun k q hq hk=>mono k m q p hq hp (by omega) cc1) hhi;simp[-getElem?_pos,h0,h2,h4,h8,h9,h10,hltI,hw,hw1,c1',hmn,hbx,hle,r1,h3,cc1];refine ih _ ?_ ?_ ?_ ?_ ?_ ?_ <;> simp[h0,h2,h4,h8,h10]
   ·have ih:=fun ρ=>IH i m ρ (by omega) (by omega) (by omega) hlo (fun k q hq hk h=>cc1 (mono m k p q hp hq hk h));simp[-getElem?_pos,h0,h2,h4,h8,h9,h10,hltI,hw,hw1,c1',hmn,hbx,hle,r1,h3,cc1];refine ih _ ?_ ?_ ?_ ?_ ?_ ?_ <;> simp[h0,h2,h4,h8,h9]
  ·exact IH i j ρ (by omega) hij hj hlo hhi h0 h4 h2 h8 h9 h10
theorem QcC {l:List Pw} {t:Tm} {B:List (List AV)} {id sz:Nat} {c:List AV} (hl:l.length < 100000000) (hb:l≠[]→sz=5∧B[id]? =some (QM l ++ c)) (hm: ∀p∈l,p.1.mass < big) (ht:t.mass < big) (ha:Asc (ZR l)):
  QfL l t B (call F.tb 191 [.gs id 0 sz l.length,.agg (Qb t),.fn 190 []] B):=by
 have h:=fun ρ=>Qa3 hl hb hm ht ha l.length 0 l.length ρ (by omega) (by omega) (by omega) (fun k p _ hk=>by omega) (fun k p hp hk=>by rw[List.getElem?_eq_none hk]at hp;cases hp);rw[Qa F.tb_191 _ _ rfl];simp[F.f191C];refine h _ ?_ ?_ ?_ ?_ ?_ ?_ <;> simp
@[simp] theorem FH (t:Tm): (Qb t).drop 5=[]:=by simp[Q6]
def QeQ (l:List Pw) (id:Nat) (B:List (List AV)) (r:Out):Prop:=∃t,t≠[]∧r=some (.gs id 0 5 l.length,B.set id (QM l ++ t))
theorem QcD {pre post:List Pw} {p:Pw} {id n:Nat} {B:List (List AV)} {t:List AV} (hn:n=pre.length+1+post.length) (hl:n < 100000000) (hb:B[id]? =some (QM (pre ++ p:: post)++ t)):
  QeQ (pre ++ post) id B (call F.tb 195 [.gs id 0 5 n,.int .i64 pre.length,.int .i64 ((pre.length:Int)+1)] B):=by
 have hlt:=ZI hb;have e1: (0:Int)≤(pre.length:Int):=by omega
 have e2: (pre.length:Int)≤(pre.length:Int)+1:=by omega
 have e3: (pre.length:Int)+1≤(n:Int):=by omega
 have e4: (0:Int)≤(pre.length:Int)+1:=by omega
 have e5: ¬(pre.length:Int)=(pre.length:Int)+1:=by omega
 have e6: (pre.length:Int)≤(n:Int):=by omega
 have e7: ((pre.length:Int)+1).toNat=pre.length+1:=by omega
 have e8:n - (pre.length+1)=post.length:=by omega
 have e9: (pre.length+post.length)=n - 1:=by omega
 have e10:n - (n - 1)=1:=by omega
 have e11: ((n - 1:Nat):Int)≤(n:Int):=by omega
 have hl0: (QM pre).length=pre.length*5:=YN pre;have hp0: (QM post).length=post.length*5:=YN post;have hst: (QM post).map AV.strip=QM post:=Zl Yr post;have hrl: (QM (pre ++ p:: post)++ t).length=n*5+t.length:=by rw[List.length_append,YN];simp;omega
 have htk:=WS (f:=Qw) (k:=5) Z2 (l:=pre ++ p:: post) (pre:=pre) (post:=p:: post) rfl t;have hdr:=TB (f:=Qw) (k:=5) Z2 (l:=pre ++ p:: post) (pre:=pre ++ [p]) (post:=post) (by simp) t;rw[List.length_append,List.length_singleton]at hdr;have hne:QM (pre ++ p:: post)++ t≠[]:=by
  intro e;have:=congrArg List.length e;rw[hrl]at this;simp at this;omega
 have hb56:n*64≤140737488355328:=by omega
 have hb57:pre.length*64≤140737488355328:=by omega
 have hb58: (pre.length+post.length)*64≤140737488355328:=by omega
 have hq2: (n:Int)≤((QM (pre ++ p:: post)++ t).length:Int) / 5:=by rw[hrl];omega
 have e13:pre.length≤n:=by omega
 rw[Qa F.tb_195 _ _ rfl];generalize hcc:QM (pre ++ p:: post)++ t=c at *;by_cases hp:post=[]
 ·subst hp;have e8':n - (pre.length+1)=0:=by simpa using e8
  have e9':pre.length=n - 1:=by simpa using e9
  have e12:n - pre.length=1:=by omega
  have hle:pre.length*5+5≤c.length:=by omega
  refine⟨List.replicate 5 .undef ++ c.drop (pre.length*5+5),by simp,?_⟩;simp[-getElem?_pos,F.f195C,e1,e2,e3,e4,e5,e6,e7,e8',e12,e13,hb,hb57,hq2,hle,hne,htk,appM,YF]
 ·have hz: ¬post.length=0:=fun e=>hp (List.eq_nil_of_length_eq_zero e);have hle: (pre.length+1)*5+post.length*5≤c.length:=by omega
  have hle2: (pre.length+post.length)*5≤c.length:=by omega
  have hle3:pre.length*5≤c.length:=by omega
  have htp: ((c.map AV.strip).drop ((pre.length+1)*5)).take (post.length*5)=QM post:=by
   rw[← List.map_drop,hdr,← hp0,List.map_append];change List.take (QM post).length (List.map AV.strip (QM post)++ List.map AV.strip t)=QM post;rw[hst,List.take_left]
  have e14: (pre.length:Int)+ (post.length:Int)≤(n:Int):=by omega
  have e15: (0:Int)≤(pre.length:Int)+ (post.length:Int):=by omega
  have e16:n - (pre.length+post.length)=1:=by omega
  have e17: ((pre.length:Int)+ (post.length:Int)).toNat=pre.length+post.length:=by omega
  have e18:pre.length+post.length≤n:=by omega
  have hgs: ∀x:List AV,(B.set id x)[id]? =some x:=fun x=>by simp[hlt]
  obtain⟨c1,hc1⟩: ∃c1,ZA Qw pre ++ (QM post ++ c.drop (pre.length*5+post.length*5))=c1:=⟨_,rfl⟩;have hc1':c1=QM (pre ++ post)++ c.drop ((pre.length+post.length)*5):=by rw[← hc1,show QM (pre ++ post)=QM pre ++ QM post from Xj _ _ _,Nat.add_mul];simp
  have hr1: (QM (pre ++ post)).length=(pre.length+post.length)*5:=by rw[YN];simp
  have hl1:c1.length=c.length:=by rw[hc1',List.length_append,hr1,List.length_drop];omega
  have htk1:c1.take ((pre.length+post.length)*5)=QM (pre ++ post):=by rw[hc1',← hr1,List.take_left]
  have hle4: (pre.length+post.length)*5+5≤c1.length:=by omega
  rw[← hl1]at hq2;refine⟨List.replicate 5 .undef ++ c1.drop ((pre.length+post.length)*5+5),by simp,?_⟩;rw[hl1]at hq2;have hq3: (n:Int)≤(c1.length:Int) / 5:=by rw[hl1];exact hq2
  simp[-getElem?_pos,F.f195C,e1,e2,e3,e4,e5,e6,e7,e8,e14,e15,e16,e17,e18,hp,hb,hb57,hb58,hq2,hq3,hle,hle2,hle3,hle4,hne,htk,htk1,htp,hp0,hgs,hc1,appM,YF]
def Z9:List Pw→Tm→Int→List Pw
 | [],t,n=>[(t,n)]
 | p:: r,t,n=>if Qh p.1 t < 0 then p:: Z9 r t n else if Qh p.1 t=0 then(if p.2+n=0 then r else(p.1,p.2+n):: r)else(t,n):: p:: r
theorem K8: ∀(pre post:List Pw) (t:Tm) (n:Int),(∀p∈pre,Qh p.1 t < 0)→Z9 (pre ++ post) t n=pre ++ Z9 post t n
 | [],_,_,_,_=>rfl
 | p:: pre,post,t,n,h=>by
  simp only[List.cons_append,Z9];rw[if_pos (h p (by simp)),K8 pre post t n fun q hq=>h q (by simp[hq])]
def PS (B0 B:List (List AV)) (v:AV) (l:List Pw):Prop:=∃(M:List (List AV)) (id sz:Nat),B=B0 ++ M∧v= .gs id 0 sz l.length∧
 ((sz=0∧id=0∧l=[])∨(sz=5∧B0.length≤id∧∃t,B[id]? =some (QM l ++ t)∧QM l ++ t≠[]))
def As (B0:List (List AV)) (l:List Pw) (r:Out):Prop:=∃v B,r=some (v,B)∧PS B0 B v l
theorem Bm (B0:List (List AV)):PS B0 B0 (.gs 0 0 0 0) []:=⟨[],0,0,by simp,rfl,.inl ⟨rfl,rfl,rfl⟩⟩
theorem Xn {B0 M:List (List AV)} {id:Nat} (h:B0.length≤id) (x:List AV): (B0 ++ M).set id x=B0 ++ M.set (id - B0.length) x:=by rw[List.set_append,if_neg (by omega)]
theorem HV {B0 B:List (List AV)} {v:AV} {l:List Pw} {p:Pw} (h:PS B0 B v l) (hl:l.length < 50000000) (hm: ∀q∈l,q.1.mass < big∧ -100000000 < q.2∧q.2 < 100000000) (hp:p.1.mass < big) (hpn: -100000000 < p.2∧p.2 < 100000000) (ha:Asc (ZR l)):
  As B0 (Z9 l p.1 p.2) (call F.tb 189 [v,.agg (Qw p)] B):=by
 obtain⟨M,id,sz,rfl,rfl,hcase⟩:=h;have hb: ∃c,l≠[]→sz=5∧(B0 ++ M)[id]? =some (QM l ++ c):=by
  rcases hcase with⟨_,_,rfl⟩ | ⟨h1,_,t,h2,_⟩
  ·exact⟨[],fun h=>absurd rfl h⟩
  ·exact⟨t,fun _=>⟨h1,h2⟩⟩
 obtain⟨c,hb⟩:=hb;obtain⟨k,⟨hk1,hk2,hk3⟩,hc⟩:=QcC (t:=p.1) (by omega) hb (fun q hq=>(hm q hq).1) hp ha;have hcl:=Ux p.1 (B0 ++ M) hp;have hsplit:l=l.take k ++ l.drop k:=(List.take_append_drop _ _).symm;have hkl: (l.take k).length=k:=by rw[List.length_take];omega
 have hpre: ∀q∈l.take k,Qh q.1 p.1 < 0:=by
  intro q hq;obtain⟨i,hi,rfl⟩:=List.getElem_of_mem hq;rw[hkl]at hi;exact hk2 i _ (by rw[List.getElem_take];exact List.getElem?_eq_getElem (by omega)) hi
 have hadd:Z9 l p.1 p.2=l.take k ++ Z9 (l.drop k) p.1 p.2:=by
  conv=>lhs;rw[hsplit]
  exact K8 _ _ _ _ hpre
 rw[Qa F.tb_189 _ _ rfl];by_cases hh:hit l p.1 k=true
 ·rw[hh]at hc;obtain⟨q,hq,hq0⟩: ∃q,l[k]? =some q∧Qh q.1 p.1=0:=by
   unfold hit at hh;split at hh
   ·rename_i q hq;exact⟨q,hq,by simpa using hh⟩
   ·cases hh
  have hkl2:k < l.length:=by
   rcases Nat.lt_or_ge k l.length with h | h
   ·exact h
   ·rw[List.getElem?_eq_none h]at hq;cases hq
  have hne0:l≠[]:=by intro e;subst e;simp at hkl2
  have hqe:q.1=p.1:=ZV _ _ hq0;have hdk:l.drop k=q:: l.drop (k+1):=by
   rw[List.drop_eq_getElem_cons hkl2];rw[List.getElem?_eq_getElem hkl2]at hq;injection hq with hq;rw[hq]
  have hlq:l=l.take k ++ q:: l.drop (k+1):=by rw[← hdk];exact hsplit
  have hadd2:Z9 (l.drop k) p.1 p.2=if q.2+p.2=0 then l.drop (k+1)else(q.1,q.2+p.2):: l.drop (k+1):=by
   rw[hdk];simp[Z9,hq0]
  rw[hadd,hadd2];rcases hcase with⟨_,_,rfl⟩ | ⟨rfl,hid,t,hbx,hne⟩
  ·exact absurd rfl hne0
  have hlt:=ZI hbx;have hqm:=(hm q (List.mem_of_getElem? hq)).2;have hw:IntKind.i64.wrap (q.2+p.2)=q.2+p.2:=QB (by omega) (by omega);have hrd:=P3 hq t;have hlen: (QM l ++ t).length=l.length*5+t.length:=by rw[List.length_append,YN]
  have hcell: (QM l ++ t)[k*5+4]? =some (.int .i64 q.2):=by
   have h1: (((QM l ++ t).drop (k*5)).take 5)[4]? =some (.int .i64 q.2):=by rw[hrd];simp
   rw[List.getElem?_take_of_lt (by omega),List.getElem?_drop]at h1;exact h1
  have hle:k*5+4+1≤(QM l ++ t).length:=by omega
  have hnew: (QM l ++ t).take (k*5+4)++ (AV.int .i64 (q.2+p.2):: (QM l ++ t).drop (k*5+4+1))=QM (l.take k ++ (q.1,q.2+p.2):: l.drop (k+1))++ t:=by
   have h1:=Th (f:=Qw) (k:=5) Z2 (q.1,q.2+p.2) hlq t;rw[hkl]at h1;rw[show QM (l.take k ++ (q.1,q.2+p.2):: l.drop (k+1))++ t=_ from h1.symm];have h2: (QM l ++ t).take (k*5+4)=(QM l ++ t).take (k*5)++ Qb q.1:=by
    rw[List.take_add];congr 1;have: ((QM l ++ t).drop (k*5)).take 4=(((QM l ++ t).drop (k*5)).take 5).take 4:=by rw[List.take_take];rfl
    rw[this];rw[hrd];simp
   rw[h2];simp[Qw]
  have hlt3: (k:Int) < (l.length:Int):=by omega
  have hgs: ∀x:List AV,((B0 ++ M).set id x)[id]? =some x:=fun x=>by
   have:id < (B0 ++ M).length:=hlt;rw[List.getElem?_set,if_pos rfl,if_pos this]
  have hcell2: (QM (l.take k ++ (q.1,q.2+p.2):: l.drop (k+1))++ t)[k*5+4]? =some (.int .i64 (q.2+p.2)):=by
   have h0: (l.take k ++ (q.1,q.2+p.2):: l.drop (k+1))[k]? =some (q.1,q.2+p.2):=by
    rw[List.getElem?_append_right (by omega),hkl,Nat.sub_self];rfl
   have h1: (((QM (l.take k ++ (q.1,q.2+p.2):: l.drop (k+1))++ t).drop (k*5)).take 5)[4]? =some (.int .i64 (q.2+p.2)):=by rw[P3 h0 t];simp
   rw[List.getElem?_take_of_lt (by omega),List.getElem?_drop]at h1;exact h1
  have hln: (l.take k ++ (q.1,q.2+p.2):: l.drop (k+1)).length=l.length:=by simp;omega
  have hle2:k*5+4+1≤(QM (l.take k ++ (q.1,q.2+p.2):: l.drop (k+1))++ t).length:=by rw[List.length_append,YN,hln];omega
  have hw2:IntKind.i64.wrap ((k:Int)+1)=(k:Int)+1:=QB (by omega) (by omega);have hdel:=fun(x:Pw) (B:List (List AV)) (hB:B[id]? =some (QM (l.take k ++ x:: l.drop (k+1))++ t))=>QcD (n:=l.length) (by simp;omega) (by omega) hB;rw[hkl]at hdel;generalize hc1:QM (l.take k ++ (q.1,q.2+p.2):: l.drop (k+1))++ t=c1 at *;generalize hc0:QM l ++ t=c0 at *;by_cases hz:q.2+p.2=0
  ·obtain⟨t3,ht3,hd3⟩:=hdel (q.1,q.2+p.2) ((B0 ++ M).set id c1) (by rw[hc1];exact hgs c1);rw[if_pos hz];rw[List.set_set]at hd3;refine⟨.gs id 0 5 (l.take k ++ l.drop (k+1)).length,(B0 ++ M).set id (QM (l.take k ++ l.drop (k+1))++ t3),?_,M.set (id - B0.length) (QM (l.take k ++ l.drop (k+1))++ t3),id,5,Xn hid _,rfl,.inr ⟨rfl,hid,t3,hgs _,by simp[ht3]⟩⟩;have hwz:IntKind.i64.wrap (q.2+p.2)=0:=by rw[hw,hz]
   rw[hz]at hnew hcell2;simp[-getElem?_pos,QP,List.getElem?_cons_succ,F.f189C,hc,hlt3,hbx,hcell,hle,hwz,hw2,hnew,hgs,hcell2,hle2,hd3]
  ·rw[if_neg hz];refine⟨.gs id 0 5 l.length,(B0 ++ M).set id c1,?_,M.set (id - B0.length) c1,id,5,Xn hid _,by rw[hln],.inr ⟨rfl,hid,t,by rw[hc1];exact hgs _,by rw[hc1];intro e;rw[e]at hle2;simp at hle2⟩⟩;simp[-getElem?_pos,QP,List.getElem?_cons_succ,F.f189C,hc,hlt3,hbx,hcell,hle,hw,hw2,hnew,hgs,hcell2,hle2,hz]
 ·have hh':hit l p.1 k=false:=by simpa using hh
  have hadd2:Z9 (l.drop k) p.1 p.2=p:: l.drop k:=by
   cases hd:l.drop k with
   | nil=>rfl
   | cons q r=>
    have hq:l[k]? =some q:=by rw[← List.head?_drop,hd];rfl
    have h1:=hk3 k q hq (Nat.le_refl _);have h2: ¬Qh q.1 p.1=0:=by simpa[hit,hq]using hh'
    simp[Z9,h1,h2]
  rw[hadd,hadd2];have hins: ∃t2 M2 id2,call F.tb 194 [.gs id 0 sz l.length,.int .i64 k,.sl false 5 [Qw p]] (B0 ++ M)=some (.gs id2 0 5 (l.length+1),B0 ++ M2)∧B0.length≤id2∧(B0 ++ M2)[id2]? =some (QM (l.take k ++ p:: l.drop k)++ t2):=by
   rw[ZP F.tb_194];have q1: (0:Int)≤(k:Int):=by omega
   have q2: (k:Int)≤(l.length:Int):=by omega
   have q3: (l.length+1)*64≤140737488355328:=by omega
   have q4:l.length+1≤140737488355328:=by omega
   rcases hcase with⟨rfl,rfl,rfl⟩ | ⟨rfl,hid,t,hbx,hne⟩
   ·have hk0:k=0:=by simpa using hk1
    subst hk0;refine⟨[],M ++ [Qw p],(B0 ++ M).length,?_,by simp,?_⟩
    ·simp[T8,VY,RJ]
    ·rw[← List.append_assoc,List.getElem?_concat_length];simp[QM,ZA]
   ·have hlt:=ZI hbx;have hr0:=YN l;have hle:l.length*5≤(QM l ++ t).length:=by rw[List.length_append,hr0];omega
    have hcs:VY k 5 l.length (QM l ++ t) [Qw p]=QM (l.take k ++ p:: l.drop k):=by
     have h1: (QM l ++ t).take (l.length*5)=QM l:=by rw[← hr0,List.take_left]
     have h2:=WS (f:=Qw) (k:=5) Z2 (l:=l) (pre:=l.take k) (post:=l.drop k) hsplit [];have h3:=TB (f:=Qw) (k:=5) Z2 (l:=l) (pre:=l.take k) (post:=l.drop k) hsplit [];rw[hkl,List.append_nil]at h2 h3;rw[List.append_nil]at h3;unfold VY;rw[h1,h2,h3,show QM (l.take k ++ p:: l.drop k)=QM (l.take k)++ (Qw p ++ QM (l.drop k)) by simp[QM,Xj,Vu]];rw[List.map_append,List.map_append,Zl Yr,Zl Yr];simp
    have hgp:gpfreeL (QM (l.take k ++ p:: l.drop k))=true:=ID Gi _;refine⟨[],M.set (id - B0.length) []++ [QM (l.take k ++ p:: l.drop k)],(B0 ++ M).length,?_,by simp,?_⟩
    ·simp only[T8];rw[if_pos ⟨trivial,by omega,by simp,q1,q2,by simpa using q3,by simpa using q4⟩,if_neg (by omega),if_pos ⟨trivial,trivial⟩,hbx];simp only[Option.bind_some];rw[if_pos ⟨hne,hle⟩,Int.toNat_natCast,hcs,Xn hid];simp[RJ,hgp]
    ·rw[← List.append_assoc,List.append_nil];have: (B0 ++ M).length=(B0 ++ M.set (id - B0.length) []).length:=by simp
     rw[this,List.getElem?_concat_length]
  obtain⟨t2,M2,id2,hc2,h2a,h2b⟩:=hins;refine⟨.gs id2 0 5 (l.length+1),B0 ++ M2,?_,M2,id2,5,rfl,?_,.inr ⟨rfl,h2a,t2,h2b,?_⟩⟩
  ·rw[hh']at hc;have hfold: [AV.int .i64 p.1.kind,.str p.1.name,.int .i64 p.1.sort,.sl false 4 (encTs p.1.kids),.int .i64 p.2]=Qw p:=(Gh p).symm;have hf:Qb p.1 ++ [.int .i64 p.2]=Qw p:=rfl;simp[F.f189C,hc,hcl,List.take_append,List.drop_append,hf,FH,hc2]
  ·congr 1;simp;omega
  ·intro e;have:=congrArg List.length e;rw[List.length_append,YN]at this;simp at this
def MUL:List UInt8:=[109,117,108]
def INV:List UInt8:=[105,110,118]
def ONE:List UInt8:=[111,110,101]
def Y4 (t:Tm):Bool:=decide (t.kind=3) && (t.name == MUL || t.name == INV || t.name == ONE)
theorem Nl {t:Tm} (h:Y4 t=true):t.kind=3∧(t.name=MUL∨t.name=INV∨t.name=ONE):=by
 simp only[Y4,Bool.and_eq_true,Bool.or_eq_true,decide_eq_true_eq,beq_iff_eq]at h;obtain⟨h1,(h2 | h2) | h2⟩:=h
 ·exact⟨h1,.inl h2⟩
 ·exact⟨h1,.inr (.inl h2)⟩
 ·exact⟨h1,.inr (.inr h2)⟩
theorem Py (t:Tm) (bs:List (List AV)):call F.tb 188 [.agg (Qb t)] bs=some (.bool (Y4 t),bs):=by
 rw[Qa F.tb_188 _ _ rfl];by_cases hk:t.kind=3
 ·cases h1:t.name == MUL
  ·cases h2:t.name == INV
   ·cases h3:t.name == ONE <;> simp only[MUL,INV,ONE]at h1 h2 h3 <;> simp[F.f188C,Y4,hk,h1,h2,h3,MUL,INV,ONE]
   ·simp only[MUL,INV,ONE]at h1 h2;simp[F.f188C,Y4,hk,h1,h2,MUL,INV,ONE]
  ·simp only[MUL,INV,ONE]at h1;simp[F.f188C,Y4,hk,h1,MUL,INV,ONE]
 ·simp[F.f188C,Y4,hk]
theorem Ts (t:Tm) (bs:List (List AV)):call F.tb 255 [.agg (Qb t)] bs=some (.bool (Y4 t),bs):=by
 rw[Qa F.tb_255 _ _ rfl];by_cases hk:t.kind=3
 ·cases h1:t.name == MUL
  ·cases h2:t.name == INV
   ·cases h3:t.name == ONE <;> simp only[MUL,INV,ONE]at h1 h2 h3 <;> simp[F.f255C,Y4,hk,h1,h2,h3,MUL,INV,ONE]
   ·simp only[MUL,INV,ONE]at h1 h2;simp[F.f255C,Y4,hk,h1,h2,MUL,INV,ONE]
  ·simp only[MUL,INV,ONE]at h1;simp[F.f255C,Y4,hk,h1,MUL,INV,ONE]
 ·simp[F.f255C,Y4,hk]
def Y2 (t:Tm):Bool:= !((t.name == MUL && decide (t.kids.length < 2)) || (t.name == INV && !decide (t.kids.length=1)) || (t.name == ONE && !decide (t.kids.length=0)))
mutual
def arB:Tm→Bool
 | .mk k n s ks=> !Y4 (.mk k n s ks) || (Y2 (.mk k n s ks) && arL ks)
def arL:List Tm→Bool
 | []=>true
 | t:: ts=>arB t && arL ts
end
theorem Ja (t:Tm):arB t=(!Y4 t || (Y2 t && arL t.kids)):=by cases t;simp[arB]
mutual
def XG:List Pw→Tm→Int→List Pw
 | l,.mk k n s ks,m=>if Y4 (.mk k n s ks)then colL l ks (if n == INV then -m else m)else Z9 l (.mk k n s ks) m
def colL:List Pw→List Tm→Int→List Pw
 | l,[],_=>l
 | l,t:: ts,m=>colL (XG l t m) ts m
end
theorem Ta (l:List Pw) (t:Tm) (m:Int):XG l t m=if Y4 t then colL l t.kids (if t.name == INV then -m else m)else Z9 l t m:=by cases t;simp[XG]
theorem Fl (t:Tm) (bs:List (List AV)) (hm:t.mass < big) (ih: ∀x∈t.kids,∀bs,call F.tb 254 [.agg (Qb x)] bs=some (.bool (arB x),bs)):
  ∀(post pre:List Tm) (ρ:Nat→AV),t.kids=pre ++ post→ρ 1= .bx (Qb t)→ρ 3= .int .i64 t.kids.length→ρ 4= .int .i64 pre.length→
  R F.tb (.loop F.f254l0) ρ bs (Qj 0 (Qu F.tb F.f254r0 (Qx F.f254 bs)))=some (.bool (arL post),bs):=by
 have hm2:=Qp t;unfold big at hm;intro post
 induction post with
 | nil=>
  intro pre ρ hk h1 h3 h4;simp only[List.append_nil]at hk;rw[← hk]at h4;rw[Qc F.f254l0.eq_1];simp[h1,h3,h4,F.f254r0,arL]
 | cons x post IH=>
  intro pre ρ hk h1 h3 h4;have hg:=Qt hk;have hl:=QE hk;have hw1:=wr1 pre.length (by omega);have hlt:=QF hk;have hc:=ih x (by rw[hk];simp) bs;rw[Qc F.f254l0.eq_1];cases hb:arB x
  ·simp[h1,h3,h4,hg,hw1,hlt,hc,hb,arL]
  ·have h2:=fun ρ=>IH (pre ++ [x]) ρ (by rw[hk];simp);simp[h1,h3,h4,hg,hw1,hlt,hc,hb,arL];refine h2 _ ?_ ?_ ?_ <;> simp[h1,h3]
theorem Fu: ∀(t:Tm) (bs:List (List AV)),t.mass < big→call F.tb 254 [.agg (Qb t)] bs=some (.bool (arB t),bs):=by
 refine ZG ?_;intro k n s ks ih bs hm;have hl:=fun ρ=>Fl (.mk k n s ks) bs hm (fun x hx bs=>ih x hx bs (by have:=QC hx;have:=Qp (.mk k n s ks);simp at *;omega)) ks [] ρ rfl;have hsp:=Ts (.mk k n s ks) bs;rw[Qa F.tb_254 _ _ rfl,Ja];cases hs:Y4 (.mk k n s ks)
 ·simp[F.f254C,hsp,hs]
 ·have hbe: ((Qb (.mk k n s ks)).map AV.strip)=Qb (.mk k n s ks):=QL _;obtain⟨rfl,hn⟩:=Nl hs;simp only[ZH]at hn;simp only[Q0]at hl;rcases hn with rfl | rfl | rfl
  ·by_cases d:ks.length < 2
   ·have d': (ks.length:Int) < 2:=by omega
    have hc:Y2 (.mk 3 MUL s ks)=false:=by simp[Y2,d]
    simp only[hc];simp[MUL]at hsp hs hc;simp[F.f254C,hsp,hs,MUL,d']
   ·have d': ¬(ks.length:Int) < 2:=by omega
    have hc:Y2 (.mk 3 MUL s ks)=true:=by simp[Y2,d];simp[MUL,INV,ONE]
    simp only[hc];simp[MUL]at hsp hs hc hl;simp[F.f254C,hsp,hs,MUL,d'];refine hl _ ?_ ?_ ?_ <;> simp
  ·by_cases d:ks.length=1
   ·have d': (ks.length:Int)=1:=by omega
    have hc:Y2 (.mk 3 INV s ks)=true:=by simp[Y2,d];simp[MUL,INV,ONE]
    simp only[hc];simp[INV]at hsp hs hc hl;simp[F.f254C,hsp,hs,INV,d'];refine hl _ ?_ ?_ ?_ <;> simp[d]
   ·have d': ¬(ks.length:Int)=1:=by omega
    have hc:Y2 (.mk 3 INV s ks)=false:=by simp[Y2,d]
    simp only[hc];simp[INV]at hsp hs hc;simp[F.f254C,hsp,hs,INV,d']
  ·by_cases d:ks=[]
   ·subst d;have hc:Y2 (.mk 3 ONE s [])=true:=by simp[Y2];simp[MUL,INV,ONE]
    simp only[hc];simp[ONE]at hsp hs hc hl;simp[F.f254C,hsp,hs,ONE];refine hl _ ?_ ?_ ?_ <;> simp
   ·have d0: ¬ks.length=0:=fun e=>d (List.eq_nil_of_length_eq_zero e);have d': ¬(ks.length:Int)=0:=by omega
    have hc:Y2 (.mk 3 ONE s ks)=false:=by simp[Y2,d]
    simp only[hc];simp[ONE]at hsp hs hc;simp[F.f254C,hsp,hs,ONE,d,d']
theorem Oy {n:Nat} (h:n < 100000000):n*64≤140737488355328:=by omega
theorem OS (l:List Pw) (t:Tm) (m:Int) (bs:List (List AV)) (hl:l.length < 100000000) (hm: ∀q∈l,q.1.mass < big) (ht:t.mass < big):
  ∀(post pre acc:List Pw) (o:Bool) (ρ:Nat→AV),l=pre ++ post→acc.length+post.length < 100000000→(∀q∈post,q.2≠0∧Qh t q.1≠0)→ρ 0= .sl o 5 (Qr l)→ρ 2= .int .i64 m→ρ 4= .bx (Qb t)→ρ 7= .sl true 5 (Qr acc)→ρ 8= .bool true→ρ 9= .int .i64 pre.length→
  R F.tb (.loop F.f257l0) ρ bs (Qj 0 (Qu F.tb F.f257r0 (Qx F.f257 bs)))=some (.sl false 5 (Qr (acc ++ post)),bs):=by
 intro post
 induction post with
 | nil=>
  intro pre acc o ρ hk ha hp h0 h2 h4 h7 h8 h9;simp only[List.append_nil]at hk;rw[← hk]at h9;rw[Qc F.f257l0.eq_1];simp[h0,h2,h4,h7,h8,h9,F.f257r0]
 | cons q post IH=>
  intro pre acc o ρ hk ha hp h0 h2 h4 h7 h8 h9;have hg:=Qt hk;have hll:=QE hk;have hw1:=wr1 pre.length (by omega);have hlt:=QF hk;have hc:=Wz t q.1 bs ht (hm q (by rw[hk];simp));obtain⟨hq1,hq2⟩:=hp q (by simp);have hb: (acc.length+1)*64≤140737488355328:=Oy (by simp at ha;omega);have h3:=fun ρ=>IH (pre ++ [q]) (acc ++ [q]) o ρ (by rw[hk];simp) (by simp at ha ⊢;omega) (fun x hx=>hp x (by simp[hx]));simp only[List.append_assoc,List.cons_append,List.nil_append]at h3;rw[Qc F.f257l0.eq_1];simp[h0,h2,h4,h7,h8,h9,hg,hlt,hw1,hc,hq1,hq2,hb,VD,VC];refine h3 _ ?_ ?_ ?_ ?_ ?_ ?_ <;> simp[h0,h2,h4,h8]
def NZ (l:List Pw):Prop:=∀q∈l,q.2≠0
theorem Az (l:List Pw) (t:Tm) (m:Int) (bs:List (List AV)) (hl:l.length < 50000000) (hm: ∀q∈l,q.1.mass < big∧ -100000000 < q.2∧q.2 < 100000000) (hmm: -100000000 < m∧m < 100000000) (ht:t.mass < big) (ha:Asc (ZR l)) (hz:NZ l):
  ∀(post pre acc:List Pw) (o:Bool) (ρ:Nat→AV),l=pre ++ post→acc.length+post.length < 50000000→ρ 0= .sl o 5 (Qr l)→ρ 2= .int .i64 m→ρ 4= .bx (Qb t)→ρ 7= .sl true 5 (Qr acc)→ρ 8= .bool false→ρ 9= .int .i64 pre.length→
  R F.tb (.loop F.f257l0) ρ bs (Qj 0 (Qu F.tb F.f257r0 (Qx F.f257 bs)))=some (.sl false 5 (Qr (acc ++ Z9 post t m)),bs):=by
 intro post
 induction post with
 | nil=>
  intro pre acc o ρ hk hac h0 h2 h4 h7 h8 h9;simp only[List.append_nil]at hk;rw[← hk]at h9;have hb: (acc.length+1)*64≤140737488355328:=Oy (by simp at hac;omega);have hf:Qb t ++ [.int .i64 m]=Qw (t,m):=rfl;rw[Qc F.f257l0.eq_1];simp[h0,h2,h4,h7,h8,h9,F.f257r0,Z9,hb,List.take_append,List.drop_append,hf,VD,VC]
 | cons q post IH=>
  intro pre acc o ρ hk hac h0 h2 h4 h7 h8 h9;have hg:=Qt hk;have hll:=QE hk;have hw1:=wr1 pre.length (by omega);have hlt:=QF hk;have hql:q∈l:=by rw[hk];simp
  have hqm:=hm q hql;have hq0:=hz q hql;have hc:=Wz t q.1 bs ht hqm.1;have hb: (acc.length+1)*64≤140737488355328:=Oy (by simp at hac;omega);have hb2: (acc.length+1+1)*64≤140737488355328:=Oy (by clear hb;simp at hac;omega);have hap: ∀x∈post,Qh q.1 x.1 < 0:=by
   intro x hx;have h1:=ha;rw[hk,ZR,List.map_append,List.map_cons]at h1;have h2:=(List.pairwise_append.1 h1).2.1;exact(List.pairwise_cons.1 h2).1 x.1 (List.mem_map_of_mem hx)
  have hpz: ∀x∈post,x.2≠0:=fun x hx=>hz x (by rw[hk];simp[hx]);have hf:Qb t ++ [.int .i64 m]=Qw (t,m):=rfl;have hanti:=Z5 t q.1;rw[Qc F.f257l0.eq_1];by_cases c1:Qh q.1 t < 0
  ·have e1: ¬Qh t q.1 < 0:=by clear hb hb2;omega
   have e2: ¬Qh t q.1=0:=by clear hb hb2;omega
   have h3:=fun ρ=>IH (pre ++ [q]) (acc ++ [q]) o ρ (by rw[hk];simp) (by clear hb hb2;simp at hac ⊢;omega);simp only[List.append_assoc,List.cons_append,List.nil_append]at h3;simp only[Z9,c1,if_true];simp[h0,h2,h4,h7,h8,h9,hg,hlt,hw1,hc,hq0,e1,e2,hb,VD,VC];refine h3 _ ?_ ?_ ?_ ?_ ?_ ?_ <;> simp[h0,h2,h4,h8]
  ·by_cases c2:Qh q.1 t=0
   ·have e1: ¬Qh t q.1 < 0:=by clear hb hb2;omega
    have e2:Qh t q.1=0:=by clear hb hb2;omega
    have hqt:=ZV _ _ c2;have hw2:IntKind.i64.wrap (q.2+m)=q.2+m:=QB (by clear hb hb2;omega) (by clear hb hb2;omega);have hpo: ∀x∈post,x.2≠0∧Qh t x.1≠0:=fun x hx=>⟨hpz x hx,by have:=hap x hx;rw[hqt]at this;clear hb hb2;omega⟩;have hf2: (Qw q).take 4 ++ [.int .i64 (q.2+m)]=Qw (q.1,q.2+m):=by simp[Qw]
    by_cases c3:q.2+m=0
    ·have h3:=fun ρ=>OS l t m bs (by clear hb hb2;omega) (fun q hq=>(hm q hq).1) ht post (pre ++ [q]) acc o ρ (by rw[hk];simp) (by clear hb hb2;simp at hac;omega) hpo;simp only[Z9,c1,c2,c3,if_true,if_false];have hf3: (Qw q).take 4 ++ [.int .i64 0]=Qw (q.1,0):=by simp[Qw]
     simp[h0,h2,h4,h7,h8,h9,hg,hlt,hw1,hw2,hc,e2,c3,VD,VC];refine h3 _ ?_ ?_ ?_ ?_ ?_ ?_ <;> simp[h0,h2,h4,h7]
    ·have h3:=fun ρ=>OS l t m bs (by clear hb hb2;omega) (fun q hq=>(hm q hq).1) ht post (pre ++ [q]) (acc ++ [(q.1,q.2+m)]) o ρ (by rw[hk];simp) (by clear hb hb2;simp at hac ⊢;omega) hpo;simp only[List.append_assoc,List.cons_append,List.nil_append]at h3;simp only[Z9,c1,c2,c3,if_true,if_false];have hf3:Qb q.1 ++ [.int .i64 (q.2+m)]=Qw (q.1,q.2+m):=rfl;simp[h0,h2,h4,h7,h8,h9,hg,hlt,hw1,hw2,hc,e2,c3,hb,hf3,VD,VC];refine h3 _ ?_ ?_ ?_ ?_ ?_ ?_ <;> simp[h0,h2,h4]
   ·have e1:Qh t q.1 < 0:=by clear hb hb2;omega
    have e2: ¬Qh t q.1=0:=by clear hb hb2;omega
    have hpo: ∀x∈post,x.2≠0∧Qh t x.1≠0:=fun x hx=>⟨hpz x hx,by have:=Z0 e1 (hap x hx);clear hb hb2;omega⟩;have h3:=fun ρ=>OS l t m bs (by clear hb hb2;omega) (fun q hq=>(hm q hq).1) ht post (pre ++ [q]) (acc ++ [(t,m),q]) o ρ (by rw[hk];simp) (by clear hb hb2;simp at hac ⊢;omega) hpo;simp only[List.append_assoc,List.cons_append,List.nil_append]at h3;simp only[Z9,c1,c2,if_false];simp[h0,h2,h4,h7,h8,h9,hg,hlt,hw1,hc,hq0,e1,e2,hb,hb2,List.take_append,List.drop_append,hf,VD,VC];refine h3 _ ?_ ?_ ?_ ?_ ?_ ?_ <;> simp[h0,h2,h4]
theorem K7: ∀(l:List Pw) (t:Tm) (n:Int),(Z9 l t n).length≤l.length+1
 | [],_,_=>by simp[Z9]
 | p:: l,t,n=>by
  have:=K7 l t n;simp only[Z9];split
  ·simp;omega
  ·split
   ·split <;> simp <;> omega
   ·simp
theorem Ud: ∀{l:List Pw} {t:Tm} {n:Int} {q:Pw},q∈Z9 l t n→q∈l∨q=(t,n)∨∃m,(t,m)∈l∧q=(t,m+n)∧m+n≠0
 | [],t,n,q,h=>by simp[Z9]at h;exact .inr (.inl h)
 | p:: l,t,n,q,h=>by
  simp only[Z9]at h;split at h
  ·rcases List.mem_cons.1 h with h | h
   ·exact .inl (by simp[h])
   ·rcases Ud h with h | h | ⟨m,h1,h2⟩
    ·exact .inl (by simp[h])
    ·exact .inr (.inl h)
    ·exact .inr (.inr ⟨m,by simp[h1],h2⟩)
  ·split at h
   ·rename_i hc;have he:=ZV _ _ hc;split at h
    ·exact .inl (by simp[h])
    ·rename_i hz;rcases List.mem_cons.1 h with h | h
     ·exact .inr (.inr ⟨p.2,by rw[← he];simp,by rw[← he];exact h,hz⟩)
     ·exact .inl (by simp[h])
   ·rcases List.mem_cons.1 h with h | h
    ·exact .inr (.inl h)
    ·exact .inl h
theorem Jc: ∀{l:List Pw} {t:Tm} {n:Int},Asc (ZR l)→Asc (ZR (Z9 l t n))
 | [],t,n,_=>by simp[Z9,ZR,Asc]
 | p:: l,t,n,h=>by
  have h':=h;simp only[ZR,List.map_cons]at h';obtain⟨h1,h2⟩:=Yb.1 h';simp only[Z9];split
  ·rename_i c;simp only[ZR,List.map_cons];refine Yb.2 ⟨fun y hy=> ?_,Jc h2⟩;obtain⟨q,hq,rfl⟩:=List.mem_map.1 hy;rcases Ud hq with hq | rfl | ⟨m,hm,rfl,_⟩
   ·exact h1 _ (List.mem_map_of_mem hq)
   ·exact c
   ·exact c
  ·split
   ·split
    ·exact h2
    ·simp only[ZR,List.map_cons];exact h'
   ·rename_i c1 c2;simp only[ZR,List.map_cons];have c3:Qh t p.1 < 0:=by have:=Z5 t p.1;omega
    refine Yb.2 ⟨fun y hy=> ?_,h'⟩;rcases List.mem_cons.1 hy with rfl | hy
    ·exact c3
    ·exact Z0 c3 (h1 y hy)
structure XM (l:List Pw) (b:Nat):Prop where
 asc:Asc (ZR l)
 nz:NZ l
 len:l.length≤b
 bd: ∀q∈l,q.1.mass < big∧ -(b:Int)≤q.2∧q.2≤b
theorem Ir:XM [] 0:=⟨Asc.nil,fun q h=>by simp at h,by simp,fun q h=>by simp at h⟩
theorem XM.mono {l:List Pw} {b c:Nat} (h:XM l b) (hbc:b≤c):XM l c:=⟨h.asc,h.nz,Nat.le_trans h.len hbc,fun q hq=>by obtain⟨h1,h2,h3⟩:=h.bd q hq;exact⟨h1,by omega,by omega⟩⟩
theorem XM.add {l:List Pw} {b c:Nat} {t:Tm} {n:Int} (h:XM l b) (ht:t.mass < big) (hn:n≠0) (h1: -(c:Int)≤n) (h2:n≤c):XM (Z9 l t n) (b+c):=by
 refine⟨Jc h.asc,?_,?_,?_⟩
 ·intro q hq;rcases Ud hq with hq | rfl | ⟨m,hm,rfl,hz⟩
  ·exact h.nz q hq
  ·exact hn
  ·exact hz
 ·have:=K7 l t n;have:=h.len;omega
 ·intro q hq;rcases Ud hq with hq | rfl | ⟨m,hm,rfl,hz⟩
  ·obtain⟨a1,a2,a3⟩:=h.bd q hq;exact⟨a1,by omega,by omega⟩
  ·exact⟨ht,by simp;omega,by simp;omega⟩
  ·obtain⟨a1,a2,a3⟩:=h.bd _ hm;simp at a2 a3;exact⟨ht,by simp;omega,by simp;omega⟩
def uno (m:Int):Prop:=m=1∨m= -1
theorem uno.neg {m:Int} (h:uno m):uno (-m):=by rcases h with rfl | rfl <;> simp[uno]
theorem uno.ite {m:Int} (h:uno m) (c:Bool):uno (if c then -m else m):=by cases c <;> simp[h,h.neg]
theorem Lt: ∀(t:Tm) (l:List Pw) (m:Int) (b:Nat),t.mass < big→uno m→XM l b→XM (XG l t m) (b+t.nodes):=by
 refine ZG ?_;intro k n s ks ih l m b hm hu h;have hne:=YM (.mk k n s ks);have hme:=Qp (.mk k n s ks);simp only[Q0,ZH]at hne hme;have hL: ∀(xs:List Tm) (l:List Pw) (m:Int) (b:Nat),(∀x∈xs,x∈ks)→uno m→XM l b→XM (colL l xs m) (b+nodesL xs):=by
  intro xs
  induction xs with
  | nil=>intro l m b _ _ h;simpa[colL,nodesL]using h
  | cons x xs IH=>
   intro l m b hx hu h;have h1:=ih x (hx x (by simp)) l m b (by have:=QC (hx x (by simp));omega) hu h;have h2:=IH _ m _ (fun y hy=>hx y (by simp[hy])) hu h1;simp only[colL,nodesL];rw[← Nat.add_assoc];exact h2
 rw[Ta];split
 ·have:=hL ks l _ b (fun x hx=>hx) (hu.ite ((Tm.mk k n s ks).name == INV)) h;exact this.mono (by omega)
 ·have:XM (Z9 l (.mk k n s ks) m) (b+1):=h.add (c:=1) hm (by rcases hu with rfl | rfl <;> simp) (by rcases hu with rfl | rfl <;> simp) (by rcases hu with rfl | rfl <;> simp);exact this.mono (by omega)
theorem HY {l:List Pw} {t:Tm} {m:Int} {b:Nat} (o:Bool) (bs:List (List AV)) (h:XM l b) (hb:b < 40000000) (ht:t.mass < big) (hm: -100000000 < m∧m < 100000000):
  call F.tb 257 [.sl o 5 (Qr l),.agg (Qb t),.int .i64 m] bs=some (.sl false 5 (Qr (Z9 l t m)),bs):=by
 have hl:=h.len;have hp:=fun ρ=>Az l t m bs (by omega) (fun q hq=>by obtain⟨a1,a2,a3⟩:=h.bd q hq;exact⟨a1,by omega,by omega⟩) hm ht h.asc h.nz l [] [] false ρ rfl (by simp;omega);rw[Qa F.tb_257 _ _ rfl];simp only[List.nil_append]at hp;simp[F.f257C];refine hp _ ?_ ?_ ?_ ?_ ?_ ?_ <;> simp[Qr]
def Ar (l:List Pw) (bs:List (List AV)) (r:Out):Prop:=∃o,r=some (.sl o 5 (Qr l),bs)
theorem Cg (t:Tm) (bs:List (List AV)) (hm:t.mass < big) (m:Int) (hu:uno m) (ih: ∀x∈t.kids,∀l b o,XM l b→b+x.nodes < 40000000→Ar (XG l x m) bs (call F.tb 256 [.sl o 5 (Qr l),.agg (Qb x),.int .i64 m] bs)):
  ∀(post pre:List Tm) (l:List Pw) (b:Nat) (o:Bool) (ρ:Nat→AV),t.kids=pre ++ post→XM l b→b+nodesL post < 40000000→ρ 0= .sl o 5 (Qr l)→ρ 2= .int .i64 m→ρ 4= .bx (Qb t)→ρ 7= .int .i64 pre.length→
  Ar (colL l post m) bs (R F.tb (.loop F.f256l0) ρ bs (Qj 0 (Qu F.tb F.f256r0 (Qx F.f256 bs)))):=by
 have hm2:=Qp t;have hmb:=hm;unfold big at hm;intro post
 induction post with
 | nil=>
  intro pre l b o ρ hk hl hb h0 h2 h4 h7;simp only[List.append_nil]at hk;rw[← hk]at h7;rw[Qc F.f256l0.eq_1];refine⟨false,?_⟩;simp[h0,h2,h4,h7,F.f256r0,colL]
 | cons x post IH=>
  intro pre l b o ρ hk hl hb h0 h2 h4 h7;have hg:=Qt hk;have hll:=QE hk;have hw1:=wr1 pre.length (by omega);have hlt:=QF hk;have hxk:x∈t.kids:=by rw[hk];simp
  simp only[nodesL]at hb;obtain⟨o1,hc⟩:=ih x hxk l b false hl (by omega);have h3:=fun ρ=>IH (pre ++ [x]) (XG l x m) (b+x.nodes) o1 ρ (by rw[hk];simp) (Lt x l m b (by have:=QC hxk;omega) hu hl) (by omega);rw[Qc F.f256l0.eq_1];simp[h0,h2,h4,h7,hg,hlt,hw1,hc,Qg,colL];refine h3 _ ?_ ?_ ?_ ?_ <;> simp[h2,h4]
theorem QcR: ∀(t:Tm) (bs:List (List AV)) (m:Int) (l:List Pw) (b:Nat) (o:Bool),t.mass < big→uno m→XM l b→b+t.nodes < 40000000→Ar (XG l t m) bs (call F.tb 256 [.sl o 5 (Qr l),.agg (Qb t),.int .i64 m] bs):=by
 refine ZG ?_;intro k n s ks ih bs m l b o hm hu hl hb;have hme:=Qp (.mk k n s ks);have hne:=YM (.mk k n s ks);simp only[Q0,ZH]at hne hme;have hsp:=Ts (.mk k n s ks) bs;rw[Qa F.tb_256 _ _ rfl,Ta];cases hs:Y4 (.mk k n s ks)
 ·have hc:=HY (t:= .mk k n s ks) (m:=m) false bs hl (by omega) hm (by rcases hu with rfl | rfl <;> simp);refine⟨false,?_⟩;simp[F.f256C,hsp,hs,hc]
 ·have h2:=fun m hu ρ=>Cg (.mk k n s ks) bs hm m hu (fun x hx l b o hl hb=>ih x hx bs m l b o (by have:=QC hx;simp at this;omega) hu hl hb) ks [] l b false ρ rfl hl (by omega);cases hi:n == INV
  ·have h3:=h2 m hu;simp only[INV]at hi;simp[F.f256C,hsp,hs,hi,INV];refine h3 _ ?_ ?_ ?_ ?_ <;> simp
  ·have h3:=h2 (-m) hu.neg;have hw:IntKind.i64.wrap (-m)= -m:=by rcases hu with rfl | rfl <;> rfl
   simp only[INV]at hi;simp[F.f256C,hsp,hs,hi,hw,INV];refine h3 _ ?_ ?_ ?_ ?_ <;> simp
def GZ (B0:List (List AV)) (l:List Pw) (ok:Bool) (r:Out):Prop:=∃v B,r=some (.tup [v,.bool ok],B)∧PS B0 B v (if ok then l else [])
theorem Wt {B0 B:List (List AV)} {v:AV} {l:List Pw} (h:PS B0 B v l): ∃id sz,v= .gs id 0 sz l.length:=by
 obtain⟨M,id,sz,_,rfl,_⟩:=h;exact⟨id,sz,rfl⟩
theorem OA {B0 B:List (List AV)} {v:AV} {l:List Pw} (h:PS B0 B v l):PS B0 B (.gs 0 0 0 0) []:=by
 obtain⟨M,id,sz,rfl,_,_⟩:=h;exact⟨M,0,0,rfl,rfl,.inl ⟨rfl,rfl,rfl⟩⟩
theorem Qao (t:Tm) (B0:List (List AV)) (hm:t.mass < big) (m:Int) (hu:uno m) (ih: ∀x∈t.kids,∀B v l b,PS B0 B v l→XM l b→b+x.nodes < 40000000→GZ B0 (XG l x m) (arB x) (call F.tb 187 [v,.agg (Qb x),.int .i64 m] B)) (K:List (List AV)):
  ∀(post pre:List Tm) (l:List Pw) (b:Nat) (B:List (List AV)) (v:AV) (ρ:Nat→AV),t.kids=pre ++ post→PS B0 B v l→XM l b→b+nodesL post < 40000000→ρ 0=v→ρ 2= .int .i64 m→ρ 52= .sl false 4 (encTs t.kids)→ρ 53= .int .i64 t.kids.length→ρ 54= .int .i64 pre.length→
  GZ B0 (colL l post m) (arL post) (R F.tb (.loop F.f187l0) ρ B (Qj 1 (Qu F.tb F.f187r0 (Qx F.f187 K)))):=by
 have hm2:=Qp t;have hmb:=hm;unfold big at hm;intro post
 induction post with
 | nil=>
  intro pre l b B v ρ hk hps hl hb h0 h2 h52 h53 h54;simp only[List.append_nil]at hk;rw[← hk]at h54;obtain⟨id,sz,rfl⟩:=Wt hps;rw[Qc F.f187l0.eq_1];refine⟨_,B,?_,by simpa[colL,arL]using hps⟩;simp[h0,h2,h52,h53,h54,F.f187r0,colL,arL]
 | cons x post IH=>
  intro pre l b B v ρ hk hps hl hb h0 h2 h52 h53 h54;have hg:=Qt hk;have hll:=QE hk;have hw1:=wr1 pre.length (by omega);have hlt:=QF hk;have hxk:x∈t.kids:=by rw[hk];simp
  simp only[nodesL]at hb;obtain⟨v2,B2,hc,hps2⟩:=ih x hxk B v l b hps hl (by omega);obtain⟨id,sz,rfl⟩:=Wt hps;obtain⟨id2,sz2,rfl⟩:=Wt hps2;rw[Qc F.f187l0.eq_1];cases ha:arB x
  ·rw[ha]at hc hps2;refine⟨.gs 0 0 0 0,B2,?_,by simpa[arL,ha]using OA hps2⟩;simp only[Bool.false_eq_true,if_false]at hc;simp[h0,h2,h52,h53,h54,hg,hlt,hc,Qg,arL,ha]
  ·rw[ha]at hc hps2;simp only[if_true]at hc hps2;have h3:=fun ρ=>IH (pre ++ [x]) (XG l x m) (b+x.nodes) B2 _ ρ (by rw[hk];simp) hps2 (Lt x l m b (by have:=QC hxk;omega) hu hl) (by omega);have e1:colL l (x:: post) m=colL (XG l x m) post m:=by simp[colL]
   have e2:arL (x:: post)=arL post:=by simp[arL,ha]
   rw[e1,e2];simp[h0,h2,h52,h53,h54,hg,hlt,hw1,hc,Qg];refine h3 _ ?_ ?_ ?_ ?_ ?_ <;> simp[h2,h52,h53]
theorem QcB: ∀(t:Tm) (B0 B:List (List AV)) (v:AV) (l:List Pw) (m:Int) (b:Nat),t.mass < big→uno m→PS B0 B v l→XM l b→b+t.nodes < 40000000→GZ B0 (XG l t m) (arB t) (call F.tb 187 [v,.agg (Qb t),.int .i64 m] B):=by
 refine ZG ?_;intro k n s ks ih B0 B v l m b hm hu hps hl hb;have hme:=Qp (.mk k n s ks);have hne:=YM (.mk k n s ks);simp only[Q0,ZH]at hne hme;have hsp:=Py (.mk k n s ks) B;obtain⟨id,sz,rfl⟩:=Wt hps;rw[Qa F.tb_187 _ _ rfl,Ta,Ja];cases hs:Y4 (.mk k n s ks)
 ·obtain⟨v2,B2,hc,hps2⟩:=HV (p:=(.mk k n s ks,m)) hps (by have:=hl.len;omega) (fun q hq=>by obtain⟨a1,a2,a3⟩:=hl.bd q hq;exact⟨a1,by omega,by omega⟩) hm (by rcases hu with rfl | rfl <;> simp) hl.asc;obtain⟨id2,sz2,rfl⟩:=Wt hps2;have hf:Qb (.mk k n s ks)++ [.int .i64 m]=Qw (.mk k n s ks,m):=rfl;refine⟨_,B2,?_,by simpa using hps2⟩;simp[F.f187C,hsp,hs,List.take_append,List.drop_append,hf,hc]
 ·have h2:=fun m hu ρ=>Qao (.mk k n s ks) B0 hm m hu (fun x hx B v l b hps hl hb=>ih x hx B0 B v l m b (by have:=QC hx;simp at this;omega) hu hps hl hb) B ks [] l b B _ ρ rfl hps hl (by omega);obtain⟨rfl,hn⟩:=Nl hs;simp only[ZH]at hn;simp only[Q0]at h2;simp only[Bool.not_true,Bool.false_or,if_true];rcases hn with rfl | rfl | rfl
  ·have h3:=h2 m hu;by_cases d:ks.length < 2
   ·have d': (ks.length:Int) < 2:=by omega
    have hc:Y2 (.mk 3 MUL s ks)=false:=by simp[Y2,d]
    refine⟨.gs 0 0 0 0,B,?_,by simpa[hc]using OA hps⟩;simp only[hc];simp[MUL]at hsp hs hc;simp[F.f187C,hsp,hs,MUL,d']
   ·have d': ¬(ks.length:Int) < 2:=by omega
    have hc:Y2 (.mk 3 MUL s ks)=true:=by simp[Y2,d];simp[MUL,INV,ONE]
    have e: ((Tm.mk 3 MUL s ks).name == INV)=false:=by simp[MUL,INV]
    rw[e];simp only[hc,Bool.true_and,Q0,Bool.false_eq_true,if_false];simp[MUL]at hsp hs;simp[F.f187C,hsp,hs,MUL,d'];refine h3 _ ?_ ?_ ?_ ?_ ?_ <;> simp
  ·have h3:=h2 (-m) hu.neg;have hw:IntKind.i64.wrap (-m)= -m:=by rcases hu with rfl | rfl <;> rfl
   by_cases d:ks.length=1
   ·have d': (ks.length:Int)=1:=by omega
    have hc:Y2 (.mk 3 INV s ks)=true:=by simp[Y2,d];simp[MUL,INV,ONE]
    have e: ((Tm.mk 3 INV s ks).name == INV)=true:=by simp
    rw[e];simp only[hc,Bool.true_and,Q0,if_true];simp[INV]at hsp hs;simp[F.f187C,hsp,hs,INV,d',hw];refine h3 _ ?_ ?_ ?_ ?_ ?_ <;> simp[d]
   ·have d': ¬(ks.length:Int)=1:=by omega
    have hc:Y2 (.mk 3 INV s ks)=false:=by simp[Y2,d]
    refine⟨.gs 0 0 0 0,B,?_,by simpa[hc]using OA hps⟩;simp only[hc];simp[INV]at hsp hs hc;simp[F.f187C,hsp,hs,INV,d']
  ·have h3:=h2 m hu;by_cases d:ks=[]
   ·subst d;have hc:Y2 (.mk 3 ONE s [])=true:=by simp[Y2];simp[MUL,INV,ONE]
    have e: ((Tm.mk 3 ONE s []).name == INV)=false:=by simp[ONE,INV]
    rw[e];simp only[hc,Bool.true_and,Q0,Bool.false_eq_true,if_false];simp[ONE]at hsp hs;simp[F.f187C,hsp,hs,ONE];refine h3 _ ?_ ?_ ?_ ?_ ?_ <;> simp
   ·have d0: ¬ks.length=0:=fun e=>d (List.eq_nil_of_length_eq_zero e);have d': ¬(ks.length:Int)=0:=by omega
    have hc:Y2 (.mk 3 ONE s ks)=false:=by simp[Y2,d]
    refine⟨.gs 0 0 0 0,B,?_,by simpa[hc]using OA hps⟩;simp only[hc];simp[ONE]at hsp hs hc;simp[F.f187C,hsp,hs,ONE,d,d']
def ofE (t:Tm):Int:=if Qz t≠0 then Qz t else if arB t then(if 200 < (XG [] t 1).length then 3 else 0)else 6
def ofP (t:Tm):List Pw:=if ofE t=0 then XG [] t 1 else []
theorem My (t:Tm) (bs:List (List AV)) (hm:t.mass < 30000000):call F.tb 253 [.agg (Qb t)] bs=some (.tup [.sl false 5 (Qr (ofP t)),.int .i64 (ofE t)],bs):=by
 have hmb:t.mass < big:=by unfold big;omega
 have hnm:=ZL t;have h1:=Y7 t bs hmb;have h2:=Fu t bs hmb;obtain⟨o,h3⟩:=QcR t bs 1 [] 0 true hmb (.inl rfl) Ir (by omega);have h3':call F.tb 256 [.sl true 5 [],.agg (Qb t),.int .i64 1] bs=some (.sl o 5 (Qr (XG [] t 1)),bs):=h3;rw[Qa F.tb_253 _ _ rfl];by_cases hv:Qz t=0
 ·cases ha:arB t
  ·simp[F.f253C,h1,h2,hv,ha,ofE,ofP,Qr]
  ·by_cases hl:200 < (XG [] t 1).length
   ·have hl': (200:Int) < ((XG [] t 1).length:Int):=by omega
    simp[F.f253C,h1,h2,h3',hv,ha,ofE,ofP,hl,hl'];simp[Qr]
   ·have hl': ¬(200:Int) < ((XG [] t 1).length:Int):=by omega
    simp[F.f253C,h1,h2,h3',hv,ha,ofE,ofP,hl,hl']
 ·simp[F.f253C,h1,hv,ofE,ofP,Qr]
theorem QgP {B0 B:List (List AV)} {v:AV} {l:List Pw} (h:PS B0 B v l) (n:Nat): ∃o M2,∀ρ:Nat→AV,ρ n=v→Zg {env:=ρ,bs:=B} n 5=some (.sl o 5 (Qr l),{env:=upd ρ n .undef,bs:=B0 ++ M2}):=by
 obtain⟨M,id,sz,rfl,rfl,hc⟩:=h;rcases hc with⟨rfl,rfl,rfl⟩ | ⟨rfl,hid,t,hb,hne⟩
 ·exact⟨true,M,fun ρ hn=>by simp[Zg,hn,Qr]⟩
 ·by_cases hl:l.length=0
  ·have:l=[]:=List.eq_nil_of_length_eq_zero hl;subst this;exact⟨false,M,fun ρ hn=>by simp[Zg,hn,Qr]⟩
  ·refine⟨true,M.set (id - B0.length) [],fun ρ hn=> ?_⟩;have hle:0+l.length*5≤(QM l ++ t).length:=by rw[List.length_append,YN];omega
   have hch:Q5 (QM l ++ t) 0 5 l.length=Qr l:=Yv (f:=Qw) (k:=5) Z2 Yr l t;simp only[Zg,hn];rw[if_pos ⟨trivial,by omega⟩,if_neg hl,hb];simp only[Option.bind_some];rw[if_pos hle,hch,Xn hid];rfl
theorem Rc (t:Tm) (bs:List (List AV)) (hm:t.mass < 30000000):call F.tb 186 [.agg (Qb t)] bs=some (.tup [.sl false 5 (Qr (ofP t)),.int .i64 (ofE t)],bs):=by
 have hmb:t.mass < big:=by unfold big;omega
 have hnm:=ZL t;have h1:=Wm t bs hmb;obtain⟨v,B,hc,hps⟩:=QcB t bs bs (.gs 0 0 0 0) [] 1 0 hmb (.inl rfl) (Bm bs) Ir (by omega);obtain⟨id,sz,rfl⟩:=Wt hps;obtain⟨M,hM⟩: ∃M,B=bs ++ M:=by obtain⟨M,_,_,h,_⟩:=hps;exact⟨M,h⟩
 have hgn:=RB (XG [] t 1);rw[Qa F.tb_186 _ _ rfl];by_cases hv:Qz t=0
 ·cases ha:arB t
  ·rw[ha]at hc hps;simp only[Bool.false_eq_true,if_false]at hc;simp[F.f186C,h1,hv,hc,ha,ofE,ofP,Qr,hM]
  ·rw[ha]at hc hps;simp only[if_true]at hc hps;by_cases hl:200 < (XG [] t 1).length
   ·have hl': (200:Int) < ((XG [] t 1).length:Int):=by omega
    simp[F.f186C,h1,hv,hc,ha,ofE,ofP,hl,hl',hM];simp[Qr]
   ·have hl': ¬(200:Int) < ((XG [] t 1).length:Int):=by omega
    obtain⟨o,M2,hf⟩:=QgP hps 24;simp[F.f186C,h1,hv,hc,ha,ofE,ofP,hl,hl',hf]
 ·simp[F.f186C,h1,hv,ofE,ofP,Qr]
def gtO (prev:Option Tm) (t:Tm):Bool:=match prev with
 | none=>true
 | some q=>decide (Qh q t < 0)
def Yz (n:Int):Bool:=decide (n < -1000) || decide (1000 < n)
def vPL:Option Tm→List Pw→Int
 | _,[]=>0
 | prev,p:: r=>if Qz p.1≠0 then Qz p.1 else if Y4 p.1 then 1 else if p.2=0∨Yz p.2=true then 7 else if gtO prev p.1 then vPL (some p.1) r else 5
def Zi (l:List Pw):Int:=if 200 < l.length then 3 else vPL none l
def N7 (l:List Pw):Option Tm:=l.getLast?.map (·.1)
theorem Lm:N7 []=none:=rfl
theorem TV (l:List Pw) (p:Pw):N7 (l ++ [p])=some p.1:=by simp[N7]
theorem EZ (l:List Pw) (bs:List (List AV)) (hl:l.length < 100000000) (hm: ∀q∈l,q.1.mass < big):
  ∀(post pre:List Pw) (o:Bool) (ρ:Nat→AV),l=pre ++ post→ρ 0= .sl o 5 (Qr l)→ρ 9= .sl false 5 (Qr l)→ρ 10= .int .i64 l.length→ρ 11= .int .i64 pre.length→
  R F.tb (.loop F.f197l0) ρ bs (Qj 0 (Qu F.tb F.f197r0 (Qx F.f197 bs)))=some (.int .i64 (vPL (N7 pre) post),bs):=by
 intro post
 induction post with
 | nil=>
  intro pre o ρ hk h0 h9 h10 h11;simp only[List.append_nil]at hk;rw[← hk]at h11;rw[Qc F.f197l0.eq_1];simp[h0,h9,h10,h11,F.f197r0,vPL]
 | cons p post IH=>
  intro pre o ρ hk h0 h9 h10 h11;have hg:=Qt hk;have hll:=QE hk;have hw1:=wr1 pre.length (by omega);have hlt:=QF hk;have hmp:=hm p (by rw[hk];simp);have h1:=Wm p.1 bs hmp;have h2:=Py p.1 bs;have h3:=fun ρ=>IH (pre ++ [p]) o ρ (by rw[hk];simp);rw[TV]at h3;rw[Qc F.f197l0.eq_1];by_cases c1:Qz p.1=0
  ·cases c2:Y4 p.1
   ·by_cases c3:p.2=0
    ·simp[h0,h9,h10,h11,hg,hlt,h1,h2,c1,c2,c3,vPL]
    ·by_cases c4:p.2 < -1000
     ·simp[h0,h9,h10,h11,hg,hlt,h1,h2,c1,c2,c3,c4,vPL,Yz]
     ·by_cases c5:1000 < p.2
      ·simp[h0,h9,h10,h11,hg,hlt,h1,h2,c1,c2,c3,c4,c5,vPL,Yz]
      ·rcases List.eq_nil_or_concat pre with rfl | ⟨pre2,q,rfl⟩
       ·have h11':ρ 11= .int .i64 0:=h11;have hg':l[0]? =some p:=hg;have hlt':0 < l.length:=by omega
        have hw0:IntKind.i64.wrap 1=1:=rfl;clear h11 hg hlt hw1;simp[-getElem?_pos,h0,h9,h10,h11',hg',hlt',hw0,h1,h2,c1,c2,c3,c4,c5,vPL,Yz,Lm,gtO];refine h3 _ ?_ ?_ ?_ ?_ <;> simp[h0,h9,h10]
       ·have hg2:l[pre2.length]? =some q:=by rw[hk];simp
        have hq:=hm q (by rw[hk];simp);have h4:=call_Compare q.1 p.1 bs hq hmp;have hp0: (0:Int) < (pre2.length:Int)+1:=by omega
        have hp1: (0:Int)≤(pre2.length:Int)+1:=by omega
        have hp2: ((pre2.length:Int)+1).toNat=pre2.length+1:=by omega
        have hw2:IntKind.i64.wrap (pre2.length:Int)=(pre2.length:Int):=QB (by simp at hll;omega) (by simp at hll;omega);simp only[List.concat_eq_append]at *;rw[TV];simp only[List.length_append,List.length_singleton,Int.natCast_add,Int.natCast_one]at h11 hg hlt hw1 h3;by_cases c6:Qh q.1 p.1 < 0
        ·have c6': ¬0≤Qh q.1 p.1:=by omega
         simp[h0,h9,h10,h11,hg,hg2,hlt,hw1,hw2,hp0,hp1,hp2,h1,h2,h4,c1,c2,c3,c4,c5,c6,c6',vPL,Yz,gtO];refine h3 _ ?_ ?_ ?_ ?_ <;> simp[h0,h9,h10]
        ·have c6':0≤Qh q.1 p.1:=by omega
         simp[h0,h9,h10,h11,hg,hg2,hlt,hw1,hw2,hp0,hp1,hp2,h1,h2,h4,c1,c2,c3,c4,c5,c6,c6',vPL,Yz,gtO]
   ·simp[h0,h9,h10,h11,hg,hlt,h1,h2,c1,c2,vPL]
  ·simp[h0,h9,h10,h11,hg,hlt,h1,h2,c1,vPL]
theorem Rd (l:List Pw) (o:Bool) (bs:List (List AV)) (hl:l.length < 100000000) (hm: ∀q∈l,q.1.mass < big):call F.tb 197 [.sl o 5 (Qr l)] bs=some (.int .i64 (Zi l),bs):=by
 have h:=fun ρ=>EZ l bs hl hm l [] false ρ rfl;rw[Qa F.tb_197 _ _ rfl];by_cases c:200 < l.length
 ·have c': (200:Int) < (l.length:Int):=by omega
  simp[F.f197C,c,c',Zi]
 ·have c': ¬(200:Int) < (l.length:Int):=by omega
  simp[F.f197C,c,c',Zi];refine h _ ?_ ?_ ?_ ?_ <;> simp
theorem I5 (l:List Pw) (bs:List (List AV)) (hl:l.length < 100000000) (hm: ∀q∈l,q.1.mass < big):
  ∀(post pre:List Pw) (o:Bool) (ρ:Nat→AV),l=pre ++ post→ρ 0= .sl o 5 (Qr l)→ρ 3= .int .i64 pre.length→
  R F.tb (.loop F.f259l0) ρ bs (Qj 0 (Qu F.tb F.f259r0 (Qx F.f259 bs)))=some (.int .i64 (vPL (N7 pre) post),bs):=by
 intro post
 induction post with
 | nil=>
  intro pre o ρ hk h0 h3;simp only[List.append_nil]at hk;rw[← hk]at h3;rw[Qc F.f259l0.eq_1];simp[h0,h3,F.f259r0,vPL]
 | cons p post IH=>
  intro pre o ρ hk h0 h3;have hg:=Qt hk;have hll:=QE hk;have hw1:=wr1 pre.length (by omega);have hlt:=QF hk;have hmp:=hm p (by rw[hk];simp);have h1:=Y7 p.1 bs hmp;have h2:=Ts p.1 bs;have hh:=fun ρ=>IH (pre ++ [p]) o ρ (by rw[hk];simp);rw[TV]at hh;rw[Qc F.f259l0.eq_1];by_cases c1:Qz p.1=0
  ·cases c2:Y4 p.1
   ·by_cases c3:p.2=0
    ·simp[h0,h3,hg,hlt,h1,h2,c1,c2,c3,vPL]
    ·by_cases c4:p.2 < -1000
     ·simp[h0,h3,hg,hlt,h1,h2,c1,c2,c3,c4,vPL,Yz]
     ·by_cases c5:1000 < p.2
      ·simp[h0,h3,hg,hlt,h1,h2,c1,c2,c3,c4,c5,vPL,Yz]
      ·rcases List.eq_nil_or_concat pre with rfl | ⟨pre2,q,rfl⟩
       ·have h3':ρ 3= .int .i64 0:=h3;have hg':l[0]? =some p:=hg;have hlt':0 < l.length:=by omega
        have hw0:IntKind.i64.wrap 1=1:=rfl;clear h3 hg hlt hw1;simp[-getElem?_pos,h0,h3',hg',hlt',hw0,h1,h2,c1,c2,c3,c4,c5,vPL,Yz,Lm,gtO];refine hh _ ?_ ?_ <;> simp[h0]
       ·have hg2:l[pre2.length]? =some q:=by rw[hk];simp
        have hq:=hm q (by rw[hk];simp);have h4:=Wz q.1 p.1 bs hq hmp;have hp0: (0:Int) < (pre2.length:Int)+1:=by omega
        have hp1: (0:Int)≤(pre2.length:Int)+1:=by omega
        have hp2: ((pre2.length:Int)+1).toNat=pre2.length+1:=by omega
        have hw2:IntKind.i64.wrap (pre2.length:Int)=(pre2.length:Int):=QB (by simp at hll;omega) (by simp at hll;omega);simp only[List.concat_eq_append]at *;rw[TV];simp only[List.length_append,List.length_singleton,Int.natCast_add,Int.natCast_one]at h3 hg hlt hw1 hh;by_cases c6:Qh q.1 p.1 < 0
        ·have c6': ¬0≤Qh q.1 p.1:=by omega
         simp[h0,h3,hg,hg2,hlt,hw1,hw2,hp0,hp1,hp2,h1,h2,h4,c1,c2,c3,c4,c5,c6,c6',vPL,Yz,gtO];refine hh _ ?_ ?_ <;> simp[h0]
        ·have c6':0≤Qh q.1 p.1:=by omega
         simp[h0,h3,hg,hg2,hlt,hw1,hw2,hp0,hp1,hp2,h1,h2,h4,c1,c2,c3,c4,c5,c6,c6',vPL,Yz,gtO]
   ·simp[h0,h3,hg,hlt,h1,h2,c1,c2,vPL]
  ·simp[h0,h3,hg,hlt,h1,h2,c1,vPL]
theorem Mz (l:List Pw) (o:Bool) (bs:List (List AV)) (hl:l.length < 100000000) (hm: ∀q∈l,q.1.mass < big):call F.tb 259 [.sl o 5 (Qr l)] bs=some (.int .i64 (Zi l),bs):=by
 have h:=fun ρ=>I5 l bs hl hm l [] false ρ rfl;rw[Qa F.tb_259 _ _ rfl];by_cases c:200 < l.length
 ·have c': (200:Int) < (l.length:Int):=by omega
  simp[F.f259C,c,c',Zi]
 ·have c': ¬(200:Int) < (l.length:Int):=by omega
  simp[F.f259C,c,c',Zi];refine h _ ?_ ?_ <;> simp
theorem Mp: ∀(l:List Pw) (prev:Option Tm),vPL prev l=0→(∀q∈l,Qz q.1=0∧Y4 q.1=false∧q.2≠0∧ -1000≤q.2∧q.2≤1000)∧Asc (ZR l)∧(∀a,prev=some a→∀q∈l,Qh a q.1 < 0)
 | [],prev,_=>⟨fun q h=>by simp at h,Asc.nil,fun a _ q h=>by simp at h⟩
 | p:: r,prev,h=>by
  simp only[vPL]at h;split at h
  ·rename_i c;exact absurd h c
  rename_i c1;split at h
  ·cases h
  rename_i c2;split at h
  ·cases h
  rename_i c3;split at h
  ·rename_i c4;obtain⟨h1,h2,h3⟩:=Mp r (some p.1) h;have hpr:=h3 p.1 rfl;refine⟨fun q hq=> ?_,?_,?_⟩
   ·rcases List.mem_cons.1 hq with rfl | hq
    ·simp[Yz]at c3;exact⟨by simpa using c1,by simpa using c2,c3.1,c3.2.1,c3.2.2⟩
    ·exact h1 q hq
   ·simp only[ZR,List.map_cons];refine Yb.2 ⟨fun y hy=> ?_,h2⟩;obtain⟨q,hq,rfl⟩:=List.mem_map.1 hy;exact hpr q hq
   ·intro a ha q hq;subst ha;have c5:Qh a p.1 < 0:=by simpa[gtO]using c4
    rcases List.mem_cons.1 hq with rfl | hq
    ·exact c5
    ·exact Z0 c5 (hpr q hq)
  ·cases h
theorem Wv {l:List Pw} (h:Zi l=0) (hm: ∀q∈l,q.1.mass < big):XM l 1000∧l.length≤200∧∀q∈l,Qz q.1=0∧Y4 q.1=false:=by
 unfold Zi at h;split at h
 ·cases h
 ·obtain⟨h1,h2,_⟩:=Mp l none h;exact⟨⟨h2,fun q hq=>(h1 q hq).2.2.1,by omega,fun q hq=>⟨hm q hq,(h1 q hq).2.2.2.1,(h1 q hq).2.2.2.2⟩⟩,by omega,fun q hq=>⟨(h1 q hq).1,(h1 q hq).2.1⟩⟩
end Go.Am
