/-
  Sc13, Sc14, Sc15, Sc16, Sc17, Sc18.
-/
import Derived.Test.YtpgbndmkiiakaaaGreatDoorG23
set_option linter.unusedVariables false
set_option linter.unusedSimpArgs false
namespace Go.Am
set_option maxRecDepth 8000
def flg (n:Nat) (os:List Nat):List AV:=(List.range n).map fun i=> .bool (os.contains i)
theorem Wt (n:Nat) (os:List Nat): (flg n os).length=n:=by simp[flg]
theorem Tf {n i:Nat} (os:List Nat) (h:i < n): (flg n os)[i]? =some (.bool (os.contains i)):=by simp[flg,h]
theorem QjN {n i:Nat} (os:List Nat) (h:i < n): (flg n os).take i ++ .bool true:: (flg n os).drop (i+1)=flg n (os ++ [i]):=by
 apply List.ext_getElem?;intro j;by_cases hj:j < n
 ·rw[Tf _ hj];have hlt: ((flg n os).take i).length=i:=by simp[Wt];omega
  rcases Nat.lt_trichotomy j i with c | c | c
  ·rw[List.getElem?_append_left (by omega),List.getElem?_take,if_pos c,Tf _ hj];have: ¬j=i:=by omega
   simp[this]
  ·subst c;rw[List.getElem?_append_right (by omega),hlt];simp
  ·rw[List.getElem?_append_right (by omega),hlt];obtain⟨k,rfl⟩: ∃k,j=i+1+k:=⟨j - i - 1,by omega⟩;rw[show i+1+k - i=k+1 by omega,List.getElem?_cons_succ,List.getElem?_drop,Tf _ hj];have: ¬i+1+k=i:=by omega
   simp[this]
 ·have h1: (flg n (os ++ [i])).length≤j:=by rw[Wt];omega
  rw[List.getElem?_eq_none h1,List.getElem?_eq_none];simp[Wt];omega
theorem BQ {n k:Nat} {os:List Nat} (h: ∀i∈os,i < n):flg n os ++ List.replicate k (.bool false)=flg (n+k) os:=by
 apply List.ext_getElem?;intro j;by_cases c:j < n
 ·rw[List.getElem?_append_left (by rw[Wt];exact c),Tf _ c,Tf _ (by omega)]
 ·rw[List.getElem?_append_right (by rw[Wt];omega),Wt];by_cases c2:j < n+k
  ·rw[Tf _ c2,List.getElem?_replicate,if_pos (by omega)];have:os.contains j=false:=by simpa using fun hj=>c (h j hj)
   rw[this]
  ·rw[List.getElem?_replicate,if_neg (by omega),List.getElem?_eq_none (by rw[Wt];omega)]
def FB (bs B:List (List AV)) (id n:Nat) (os:List Nat):Prop:=B.take bs.length=bs∧bs.length≤id∧B[id]? =some (flg n os)
theorem QmZ {bs B:List (List AV)} {id n i:Nat} {os:List Nat} (h:FB bs B id n os):FB bs (B.set id (flg n (os ++ [i]))) id n (os ++ [i]):=by
 obtain⟨h1,h2,h3⟩:=h;have hl:=(List.getElem?_eq_some_iff.1 h3).1;refine⟨?_,h2,by rw[List.getElem?_set_self hl]⟩;rw[List.take_set_of_le h2];exact h1
theorem QmY {bs B:List (List AV)} {id n:Nat} {os:List Nat} (h:FB bs B id n os) (hn:0 < n) (k:Nat) (hk:0 < k) (hb:n+k≤1000000) (hos: ∀i∈os,i < n):
  ∃B2,Me 1 1 (.gs id 0 1 n) (k,List.replicate k (.bool false)) B=some (.gs B.length 0 1 (n+k),B2)∧FB bs B2 B.length (n+k) os:=by
 obtain⟨h1,h2,h3⟩:=h;have hl:=(List.getElem?_eq_some_iff.1 h3).1;have hst: (flg n os).map AV.strip=flg n os:=by
  simp only[flg,List.map_map];rfl
 refine⟨B.set id []++ [flg (n+k) os],?_,?_,?_,?_⟩
 ·have hne:flg n os≠[]:=fun e=>by have:=Wt n os;rw[e]at this;simp at this;omega
  have c1: ¬k=0:=by omega
  have c2: (n+k)*1≤140737488355328:=by omega
  have c3: ¬(n+k)*1≤(flg n os).length:=by rw[Wt];omega
  have c4:n*1≤(flg n os).length:=by rw[Wt];omega
  have et: (flg n os).take (n*1)=flg n os:=by rw[List.take_of_length_le];rw[Wt];omega
  simp only[Me];rw[if_pos ⟨by omega,c2⟩,if_neg c1,if_neg (by omega),if_pos ⟨trivial,trivial⟩,h3];simp only[Option.bind_some];rw[if_pos ⟨hne,c4⟩,if_neg c3,et,hst,BQ hos]
 ·rw[List.take_append_of_le_length (by rw[List.length_set];omega),List.take_set_of_le h2];exact h1
 ·have:=congrArg List.length h1;simp at this;omega
 ·rw[List.getElem?_append_right (by rw[List.length_set];exact Nat.le_refl _),List.length_set];simp
def TZ (r:Option (List Rp)) (g:Nat):AV:=match r with
 | some l=> .tup [.sl false 8 (QB l),.int .i64 g,.bool true]
 | none=> .tup [.sl false 8 [],.int .i64 0,.bool false]
theorem Qjp (f:Fr) (hf:FOk f) (hM:massL f.t < 1000000) (bs:List (List AV)) (g:Nat):
  ∀(n:Nat) (l:List Rp) (os:List Nat),U5 l os n→∀(post pre:List Rp) (B:List (List AV)) (id:Nat) (ρ:Nat→AV),l=pre ++ post→XI l os l 0=XI l os post pre.length→FB bs B id l.length os→
   ρ 1= .bx (Qj f)→ρ 5= .sl true 8 (QB l)→ρ 9= .int .i64 g→ρ 10= .gs id 0 1 l.length→ρ 11= .int .i64 pre.length→
  R F.tb (.loop F.f450l2) ρ B (Ql 4 (Qr F.tb F.f450r0 (Qt F.f450 bs)))=some (TZ (XZ f n l os) g,bs):=by
 intro n
 induction n with
 | zero=>intro l os h;exact absurd h.fuel (by omega)
 | succ n IHn=>
  intro l os hI post;have hR:=Ra hI;have hlen:=hR.1;have hlen2:=hI.len
  induction post with
  | nil=>
   intro pre B id ρ hk hs hB h1 h5 h9 h10 h11;simp only[List.append_nil]at hk;rw[← hk]at h11;have he:XZ f (n+1) l os=some l:=by unfold XZ;rw[hs];rfl
   have hBt:=hB.1;rw[Qc F.f450l2.eq_1,he];simp[h1,h5,h9,h10,h11,QX,Ms,hBt,TZ,F.f450r0]
  | cons x post IH=>
   intro pre B id ρ hk hs hB h1 h5 h9 h10 h11;have hgt:=YV (Qp hk);have hll:=Qx hk;have hw1:=wr1 pre.length (by omega);have hw0:IntKind.i64.wrap 0=0:=rfl;have hlt:=Qy hk;have hltn:pre.length < l.length:=by omega
   have hltn1:pre.length+1≤l.length:=by omega
   obtain⟨hBt,hid,hBg⟩:=hB;have hfl:=Wt l.length os;have hfg:=Tf os hltn;obtain⟨hv,hb⟩:=hI.ok x (by rw[hk];simp);have hc:=fun o=>Qi9 l hR x hv o B;obtain⟨o1,o2,o3⟩:=IM hR hv hb;have es: (QZ x).map AV.strip=QZ x:=rfl;have el: (QZ x).length=8:=rfl;have et: (QZ x).take 8=QZ x:=rfl;have ih:=fun hs ρ=>IH (pre ++ [x]) B id ρ (by rw[hk];simp) hs ⟨hBt,hid,hBg⟩;have hte:Qj f=[.sl false 4 (encTs f.s),.sl false 4 (encTs f.t)]:=rfl;rw[Qc F.f450l2.eq_1];cases c1:os.contains pre.length
   ·rw[c1]at hfg;by_cases c2:Zc l x=[]
    ·have ih2:=ih (by rw[hs,RR (.inr c2)];simp);rw[c2]at hc;have hnil:QB []=[]:=rfl;rw[hnil]at hc;simp[-getElem?_pos,Ya,List.getElem?_cons_succ,h1,h5,h9,h10,h11,QX,hlt,hgt,hw1,hBg,hfl,hfg,hc,es,el,et,hltn1];apply ih2 <;> simp[h1,h5,h9,h10]
    ·have hsc:=HE (post:=post) c1 c2;have hL:=fun o=>Qjb f hf hM (Zc l x) (by omega) (fun y hy=>by have:=(o1 y hy).2;unfold big;omega) o B;have hem: (Zc l x).isEmpty=false:=by cases ho:Zc l x with
      | nil=>exact absurd ho c2
      | cons=>rfl
     have hpos:=List.length_pos_iff.2 c2;have hput:=QjN os hltn;cases c3:Tj f (Zc l x)
     ·rw[c3]at hL;have he:XZ f (n+1) l os=XZ f n (l ++ Zc l x) (os ++ [pre.length]):=by
       conv=>lhs;unfold XZ
       rw[hs,hsc];simp[c3]
      have hb2: (l.length+ (Zc l x).length)*112≤140737488355328:=O4 (by omega);have hb3: (Zc l x).length≤140737488355328:=by omega
      have hI2:=Mr hI hk c1 c3;have hi:=IHn (l ++ Zc l x) (os ++ [pre.length]) hI2 (l ++ Zc l x) [];have hBs:=QmZ (i:=pre.length) (id:=id) (n:=l.length) (os:=os) ⟨hBt,hid,hBg⟩;obtain⟨B2,ha,hB2⟩:=QmY hBs (by omega) (Zc l x).length hpos (by omega) (fun i hi=>by
       rcases List.mem_append.1 hi with hi | hi
       ·exact hI.lt i hi
       ·rw[List.mem_singleton]at hi;omega)
      rw[List.length_set]at ha hB2;have hi2:=fun ρ=>hi B2 B.length ρ rfl rfl (by rw[List.length_append];exact hB2);rw[he];generalize hmm:Zc l x=more at *;rw[hte]at hL h1 hi2;simp[-getElem?_pos,Ya,List.getElem?_cons_succ,h1,h5,h9,h10,h11,QX,hlt,hgt,hw0,hBg,hfl,hfg,hc,es,el,et,hltn1,hem,hL,hput,hb2,hb3,ha,K4];apply hi2 <;> simp[h1,h9]
     ·rw[c3]at hL;have he:XZ f (n+1) l os=none:=by
       unfold XZ;rw[hs,hsc];simp[c3]
      rw[he];generalize hmm:Zc l x=more at *;rw[hte]at hL h1;simp[-getElem?_pos,Ya,List.getElem?_cons_succ,h1,h5,h9,h10,h11,QX,hlt,hgt,hBg,hfl,hfg,hc,es,el,et,hltn1,hem,hL,hBt,TZ]
   ·rw[c1]at hfg;have ih2:=ih (by rw[hs,RR (.inl c1)];simp);generalize (Zc l x)=more at *;simp[-getElem?_pos,Ya,List.getElem?_cons_succ,h1,h5,h9,h10,h11,QX,hlt,hgt,hw1,hBg,hfl,hfg,hc,es,el,et,hltn1];apply ih2 <;> simp[h1,h5,h9,h10]
theorem Qjq (f:Fr) (hf:FOk f) (hM:massL f.t < 1000000) (hv:QI f=0) (bs:List (List AV)) (ρ:Nat→AV) (h1:ρ 1= .bx (Qj f)) (h5:ρ 5= .sl true 8 (QB (Z4 f))):
  R F.tb F.f450r1 ρ bs (Qt F.f450 bs)=some (TZ (Vs f) (Z4 f).length,bs):=by
 obtain⟨hI,_⟩:=OZ hv;have hlen:=hI.len;have hfl:List.replicate (Z4 f).length (AV.bool false)=flg (Z4 f).length []:=by
  have:=BQ (n:=0) (k:=(Z4 f).length) (os:=[]) (by simp);simpa[flg]using this
 have hFB:FB bs (bs ++ [flg (Z4 f).length []]) bs.length (Z4 f).length []:=⟨by simp,Nat.le_refl _,by simp⟩;have h2:=fun ρ=>Qjp f hf hM bs (Z4 f).length 40000 (Z4 f) [] hI (Z4 f) [] _ _ ρ rfl rfl hFB;have hb1: (Z4 f).length≤140737488355328:=by omega
 have hb2: ((Z4 f).length:Int)≤4611686018427387904:=by omega
 unfold Vs;generalize XZ f 40000 (Z4 f) []=X at *;generalize Z4 f=L at *;simp[F.f450r1,h1,h5,QX,hb1,hb2,hfl];apply h2 <;> simp[h1,h5]
theorem Qjo (f:Fr) (hf:FOk f) (hM:massL f.t < 1000000) (hv:QI f=0) (bs:List (List AV)):
  ∀(post pre:List Tm) (o:Bool) (ρ:Nat→AV),Q0 f=pre ++ post→ρ 1= .bx (Qj f)→ρ 5= .sl true 8 (QB (Ym 0 f.t ++ pre.map fun a=>⟨a,a⟩))→ρ 7= .sl o 4 (encTs (Q0 f))→ρ 8= .int .i64 pre.length→
  R F.tb (.loop F.f450l1) ρ bs (Ql 2 (Qr F.tb F.f450r1 (Qt F.f450 bs)))=some (TZ (Vs f) (Z4 f).length,bs):=by
 obtain⟨hI,hl0⟩:=OZ hv;have hlen:=hI.len;intro post
 induction post with
 | nil=>
  intro pre o ρ hk h1 h5 h7 h8;simp only[List.append_nil]at hk;rw[← hk]at h8 h5;have h2:=fun ρ=>Qjq f hf hM hv bs ρ;rw[Qc F.f450l1.eq_1];simp[h1,h7,h8];apply h2 <;> simp[h1,h5,Z4]
 | cons x post IH=>
  intro pre o ρ hk h1 h5 h7 h8;have hg:=Qp hk;have hll: (Q0 f).length=pre.length+ (post.length+1):=by rw[hk];simp
  have hw1:=wr1 pre.length (by omega);have hlt: (pre.length:Int) < ((Q0 f).length:Int):=by omega
  have ih:=fun ρ=>IH (pre ++ [x]) o ρ (by rw[hk];simp);have hb2: ((Ym 0 f.t ++ pre.map fun a=>(⟨a,a⟩:Rp)).length+1)*112≤140737488355328:=O4 (by simp only[List.length_append,List.length_map,Th];omega);have e1:=Qg x;have ea:QB (Ym 0 f.t ++ (pre ++ [x]).map fun a=>(⟨a,a⟩:Rp))=QB (Ym 0 f.t ++ pre.map fun a=>(⟨a,a⟩:Rp))++ [QZ ⟨x,x⟩]:=by simp[QB]
  have er:QZ ⟨x,x⟩=[.int .i64 x.kind,.str x.name,.int .i64 x.sort,.sl false 4 (encTs x.kids),.int .i64 x.kind,.str x.name,.int .i64 x.sort,.sl false 4 (encTs x.kids)]:=rfl;rw[er]at ea;simp only[ea]at ih;generalize (Ym 0 f.t ++ pre.map fun a=>(⟨a,a⟩:Rp))=L at *;rw[Qc F.f450l1.eq_1];simp[h1,h5,h7,h8,hg,hlt,hw1,e1,QX,hb2];apply ih <;> simp[h1,h7]
theorem Qjn (f:Fr) (hf:FOk f) (hM:massL f.t < 1000000) (hv:QI f=0) (bs:List (List AV)):
  ∀(post pre:List Tm) (ρ:Nat→AV),f.t=pre ++ post→ρ 1= .bx (Qj f)→ρ 5= .sl true 8 (QB (Ym 0 pre))→ρ 6= .int .i64 pre.length→
  R F.tb (.loop F.f450l0) ρ bs (Ql 0 (Qr F.tb F.f450r2 (Qt F.f450 bs)))=some (TZ (Vs f) (Z4 f).length,bs):=by
 have hle:=Yy hv;have hte:Qj f=[.sl false 4 (encTs f.s),.sl false 4 (encTs f.t)]:=rfl;have happ: ∀(l:List Tm) (x:Tm) (i:Nat),Ym i (l ++ [x])=Ym i l ++ [⟨x,Z5 (i+l.length)⟩]:=by
  intro l x
  induction l with
  | nil=>intro i;rfl
  | cons y l ih=>intro i;simp only[List.cons_append,Ym,ih (i+1),List.length_cons];rw[show i+1+l.length=i+ (l.length+1) by omega]
 intro post
 induction post with
 | nil=>
  intro pre ρ hk h1 h5 h6;simp only[List.append_nil]at hk;rw[← hk]at h6 h5;have h2:=fun o ρ=>Qjo f hf hM hv bs (Q0 f) [] o ρ rfl;have hc:=Lm f hf hM bs;rw[hte]at hc h1 h2;rw[Qc F.f450l0.eq_1];simp[h1,h6,F.f450r2,hc];apply h2 <;> first | rfl | simp[h1,h5]
 | cons x post IH=>
  intro pre ρ hk h1 h5 h6;have hg:=Qp hk;have hll:=Qx hk;have hw1:=wr1 pre.length (by omega);have hlt:=Qy hk;have ih:=fun ρ=>IH (pre ++ [x]) ρ (by rw[hk];simp);have hb2: ((Ym 0 pre).length+1)*112≤140737488355328:=O4 (by rw[Th];omega);have e1:=Qg x;have hit:=Bh pre.length bs (by omega);have e2:Qa (Z5 pre.length)=[.int .i64 1,.str (119:: YI pre.length),.int .i64 0,.sl false 4 []]:=by simp[Z5,Qa,encTs]
  have ea:QB (Ym 0 (pre ++ [x]))=QB (Ym 0 pre)++ [[.int .i64 x.kind,.str x.name,.int .i64 x.sort,.sl false 4 (encTs x.kids),.int .i64 1,.str (119:: YI pre.length),.int .i64 0,.sl false 4 []]]:=by
   rw[happ];simp[QB,QZ,Z5,encTs]
  rw[ea]at ih;rw[e2]at hit;rw[hte]at h1 ih;generalize Ym 0 pre=L at *;rw[Qc F.f450l0.eq_1];simp[h1,h5,h6,hg,hlt,hw1,e1,QX,hb2,hit];apply ih <;> simp[h1]
theorem Qi8 (f:Fr) (hf:FOk f) (hM:massL f.t < 1000000) (hv:QI f=0) (bs:List (List AV)):call F.tb 450 [.agg (Qj f)] bs=some (TZ (Vs f) (Z4 f).length,bs):=by
 have h:=fun ρ=>Qjn f hf hM hv bs f.t [] ρ rfl;have hte:Qj f=[.sl false 4 (encTs f.s),.sl false 4 (encTs f.t)]:=rfl;rw[Qb F.tb_450 _ _ rfl];rw[hte]at h ⊢;simp[F.f450C];apply h <;> simp[Ym,QB]
theorem Dq (t:Tm) (hm:t.mass < big) (hne:t.kids≠[]) (ih: ∀x∈t.kids,∀bs,call F.tb 430 [.agg (Qa x)] bs=some (.agg (Qa x),bs)) (B:List (List AV)):
  ∀(post pre:List Tm) (ρ:Nat→AV),t.kids=pre ++ post→ρ 1= .bx [.int .i64 t.kind,.str t.name,.int .i64 t.sort,.gs B.length 0 4 t.kids.length]→ρ 2= .bx [.int .i64 0,.str [],.int .i64 0,.sl true 4 []]→
   ρ 10= .gs B.length 0 4 t.kids.length→ρ 11= .int .i64 t.kids.length→ρ 12= .int .i64 pre.length→
  R F.tb (.loop F.f430l0) ρ (B ++ [Qu t.kids]) (Ql 0 (Qr F.tb F.f430r0 (Qt F.f430 B)))=some (.agg (Qa t),B):=by
 have hm2:=Qo t;unfold big at hm;have es: ∀x y:List AV,(B ++ [x]).set B.length y=B ++ [y]:=fun x y=>by rw[List.set_append];simp
 have eg: ∀x:List AV,(B ++ [x])[B.length]? =some x:=fun x=>List.getElem?_concat_length;have hlen: (Qu t.kids).length=t.kids.length*4:=Z2 QR _;have hst: (Qu t.kids).map AV.strip=Qu t.kids:=Z6 Zu _;intro post
 induction post with
 | nil=>
  intro pre ρ hk h1 h2 h10 h11 h12;simp only[List.append_nil]at hk;rw[← hk]at h12;have hch:Yc (Qu t.kids) 0 4 t.kids.length=encTs t.kids:=by
   have:=XH (f:=Qa) (k:=4) QR Zu t.kids [];rw[Ut,List.append_nil]at this;exact this
  have hz: ¬t.kids.length=0:=fun e=>hne (List.eq_nil_of_length_eq_zero e);rw[Qc F.f430l0.eq_1];simp[h1,h2,h10,h11,h12,F.f430r0,hz,hne,hlen,hch,es,eg,WC,Tm.eta]
 | cons x post IH=>
  intro pre ρ hk h1 h2 h10 h11 h12;have hl:=Qx hk;have hw1:=wr1 pre.length (by omega);have hlt:=Qy hk;have hlt':pre.length < t.kids.length:=by omega
  have r1: ((Qu t.kids).drop (pre.length*4)).take 4=Qa x:=by
   have:=Ue (f:=Qa) (k:=4) QR hk [];simpa using this
  have hput: (Qu t.kids).take (pre.length*4)++ (Qa x ++ (Qu t.kids).drop (pre.length*4+4))=Qu t.kids:=by
   have:=O8 (f:=Qa) (k:=4) QR x hk [];rw[← hk]at this;simpa using this
  have hle:pre.length*4+4≤t.kids.length*4:=by omega
  have hc:=ih x (by rw[hk];simp);have h2':=IH (pre ++ [x]);rw[Qc F.f430l0.eq_1];generalize Qu t.kids=c at *;simp[h1,h2,h10,h11,h12,hw1,hlt,hlt',eg,es,hlen,hle,hst,r1,hc,hput];refine h2' _ (by rw[hk];simp) ?_ ?_ ?_ ?_ ?_ <;> simp[h1,h2,h10,h11]
theorem Mi: ∀(t:Tm) (bs:List (List AV)),t.mass < big→call F.tb 430 [.agg (Qa t)] bs=some (.agg (Qa t),bs):=by
 refine Zp ?_;intro k n s ks ih bs hm;have hme:=Qo (.mk k n s ks);simp only[QN,Q5]at hme;have hb:ks.length*56≤140737488355328:=by unfold big at hm;omega
 rw[Qb F.tb_430 _ _ rfl];have ho:call F.tb 193 [.sl false 4 (encTs ks)] bs=if ks.length=0 then some (.gs 0 0 0 0,bs)else some (.gs bs.length 0 4 ks.length,bs ++ [Qu ks]):=by
  have hst: (Qu ks).map AV.strip=Qu ks:=Z6 Zu _;rw[Xv F.tb_193];simp only[Ua,if_true,UQ,XM,hb,encTs_gp,T3,hst]
 by_cases hk:ks=[]
 ·subst hk;simp[F.f430C,Qg,encTs]at ho ⊢;simp[ho];rw[Qc F.f430l0.eq_1];simp[F.f430r0]
 ·have hz: ¬ks.length=0:=fun e=>hk (List.eq_nil_of_length_eq_zero e);rw[if_neg hz]at ho;have hl:=fun ρ=>Dq (.mk k n s ks) hm hk (fun x hx bs=>ih x hx bs (by have:=QD (show x∈ks from hx);omega)) bs ks [] ρ rfl;simp only[YJ,Q5,Wu,QN]at hl;simp[F.f430C];simp[Qg,ho];have e:AV.agg [.int .i64 k,.str n,.int .i64 s,.sl false 4 (encTs ks)]= .agg (Qa (.mk k n s ks)):=by rw[Qg];rfl
  rw[e];refine hl _ ?_ ?_ ?_ ?_ ?_ <;> simp
theorem XD (q:Tst): (Zl q).length=9:=by simp[ZM]
theorem YC (q:Tst): (Zl q).map AV.strip=Zl q:=by simp[ZM]
theorem Qdm (q:Tst):gpfreeL (Zl q)=true:=by simp[ZM]
def QK (l:List Tst):List (List AV):=l.map Zl
theorem Z9 (l:List Tst): (QK l).length=l.length:=by simp[QK]
theorem LS (a b:List Tst):QK a ++ QK b=QK (a ++ b):=by simp[QK]
theorem LT {l:List Tst} {i:Nat} {q:Tst} (h:l[i]? =some q): (QK l)[i]? =some (Zl q):=by simp[QK,h]
theorem Vd: ∀l:List Tst,gpfreeE (QK l)=true
 | []=>rfl
 | x:: l=>by
  have:=Vd l;unfold QK at this;simp only[QK,List.map_cons,gpfreeE,Qdm,this,Bool.and_self]
abbrev Yu (l:List Tst):List AV:=ZP Zl l
def TB (bs B:List (List AV)) (l:List Tst):Prop:=∃(v:AV) (M:List (List AV)) (id sz:Nat),B=(bs ++ [[v]])++ M∧v= .gs id 0 sz l.length∧
 ((l=[]∧id=0∧sz=0)∨(sz=9∧bs.length+1≤id∧l≠[]∧B[id]? =some (Yu l)))
theorem Qno (bs:List (List AV)):TB bs (bs ++ [[.gs 0 0 0 0]]) []:=⟨_,[],0,0,by simp,rfl,.inl ⟨rfl,rfl,rfl⟩⟩
theorem Nl (bs:List (List AV)) (v v':AV) (M:List (List AV)): (bs ++ [[v]]++ M).set bs.length [v']=bs ++ [[v']]++ M:=by simp
theorem Qnm {bs B:List (List AV)} {l:List Tst} (q:Tst) (o:Bool) (h:TB bs B l) (hl:l.length < 1000000):
  ∃id sz id' B1,B[bs.length]? =some [.gs id 0 sz l.length]∧appM 120 9 (.gs id 0 sz l.length) (.sl o 9 [Zl q]) B=some (.gs id' 0 9 (l.length+1),B1)∧B1[bs.length]? =some [.gs id 0 sz l.length]∧
   TB bs (B1.set bs.length [.gs id' 0 9 (l.length+1)]) (l ++ [q]):=by
 obtain⟨v,M,id,sz,rfl,rfl,hc⟩:=h;have hb: (l.length+1)*120≤140737488355328:=by
  have: ∀n,n < 1000000→(n+1)*120≤140737488355328:=fun n h=>by omega
  exact this _ hl
 have hs: ∀X,Xp 9 (.sl o 9 [Zl q]) X=some (1,Zl q):=fun X=>by simp[Xp,YC]
 refine⟨id,sz,(bs ++ [[AV.gs id 0 sz l.length]]++ M).length,?_⟩;rcases hc with⟨rfl,rfl,rfl⟩ | ⟨rfl,hid,hne0,hbx⟩
 ·refine⟨bs ++ [[.gs 0 0 0 0]]++ (M ++ [Zl q]),by simp,?_,by simp,.gs (bs ++ [[AV.gs 0 0 0 0]]++ M).length 0 9 1,M ++ [Zl q],_,9,?_,rfl,.inr ⟨rfl,by simp,by simp,?_⟩⟩
  ·simp[appM,hs]
  ·rw[List.length_nil,Nat.zero_add,Nl]
  ·have e: (bs ++ [[AV.gs 0 0 0 0]]++ M).length=(bs ++ [[AV.gs (bs ++ [[AV.gs 0 0 0 0]]++ M).length 0 9 1]]++ M).length:=by simp
   rw[List.length_nil,Nat.zero_add,Nl,← List.append_assoc]
   conv=>lhs;arg 2;rw[e]
   rw[List.getElem?_concat_length];simp[ZP]
 ·have hr: (Yu l).length=l.length*9:=Z2 XD l;have hrow:Yu (l ++ [q])=Yu l ++ Zl q:=by simp[X9,S0]
  have hst: (Yu l).map AV.strip=Yu l:=Z6 YC l;have hpos:0 < l.length:=List.length_pos_iff.2 hne0;have hne:Yu l≠[]:=by
   intro e;rw[e]at hr;simp at hr
   omega
  have hroom: ¬(l.length+1)*9≤(Yu l).length:=by omega
  have hbase: (bs ++ [[AV.gs id 0 9 l.length]]++ M).set id []=bs ++ [[AV.gs id 0 9 l.length]]++ M.set (id - (bs ++ [[AV.gs id 0 9 l.length]]).length) []:=Y2 (by simpa using hid) _;refine⟨(bs ++ [[AV.gs id 0 9 l.length]]++ M).set id []++ [Yu l ++ Zl q],by simp,?_,?_,.gs (bs ++ [[AV.gs id 0 9 l.length]]++ M).length 0 9 (l.length+1),M.set (id - (bs ++ [[AV.gs id 0 9 l.length]]).length) []++ [Yu l ++ Zl q],(bs ++ [[AV.gs id 0 9 l.length]]++ M).length,9,?_,by simp,.inr ⟨rfl,by simp,by simp,?_⟩⟩
  ·simp only[appM,hs,Option.bind_some];rw[if_pos ⟨by omega,hb⟩,if_neg (by omega),if_neg (by omega),if_pos ⟨trivial,trivial⟩,hbx];simp only[Option.bind_some];rw[if_pos ⟨hne,by omega⟩,if_neg hroom,List.take_of_length_le (by omega),hst]
  ·rw[hbase];simp
  ·rw[hbase,List.append_assoc _ (M.set _ _),Nl]
  ·rw[hbase,List.append_assoc _ (M.set _ _),Nl,hrow,← List.append_assoc];have e: ∀v:AV,(bs ++ [[AV.gs id 0 9 l.length]]++ M).length=(bs ++ [[v]]++ M.set (id - (bs ++ [[AV.gs id 0 9 l.length]]).length) []).length:=fun v=>by simp
   generalize hn: (bs ++ [[AV.gs id 0 9 l.length]]++ M).length=n at *;have h:=List.getElem?_concat_length (l:=bs ++ [[AV.gs n 0 9 (l.length+1)]]++ M.set (id - (bs ++ [[AV.gs id 0 9 l.length]]).length) []) (a:=Yu l ++ Zl q);rw[← e (.gs n 0 9 (l.length+1))]at h;exact h
theorem OU {bs B:List (List AV)} {l:List Tst} (h:TB bs B l) (hl:l.length < 1000000) (a b:Tm) (ha:a.mass < big) (hb:b.mass < big):
  ∃B',call F.tb 429 [.agg (Qa a),.agg (Qa b),.gp bs.length 0] B=some (.tup [],B')∧TB bs B' (l ++ [⟨a,b,false⟩]):=by
 obtain⟨id,sz,id',B1,h1,h2,h3,h4⟩:=Qnm ⟨a,b,false⟩ true h hl;refine⟨_,?_,h4⟩;have hca:=Mi a B ha;have hcb:=Mi b B hb;have ea:=Qg a;have eb:=Qg b;rw[ZM]at h2;have h2':appM 120 9 (.gs id 0 sz l.length) (.sl false 9 [[.int .i64 a.kind,.str a.name,.int .i64 a.sort,.sl false 4 (encTs a.kids),.int .i64 b.kind,.str b.name,.int .i64 b.sort,.sl false 4 (encTs b.kids),.bool false]]) B=some (.gs id' 0 9 (l.length+1),B1):=h2;have hlt:=(List.getElem?_eq_some_iff.1 h1).1;have hlt3:=(List.getElem?_eq_some_iff.1 h3).1;rw[ea]at hca;rw[eb]at hcb;rw[Qb F.tb_429 _ _ rfl];simp[-getElem?_pos,Ya,F.f429C,h1,h2',h3,hca,hcb,ea,eb]
theorem Qnn {bs B:List (List AV)} {l:List Tst} (h:TB bs B l): ∃v M2,B[bs.length]? =some [v]∧v.one=true∧v.strip=v∧∀(n:Nat) (ρ:Nat→AV),ρ n=v→Ys {env:=ρ,bs:=B} n 9=some (.sl true 9 (QK l),{env:=upd ρ n .undef,bs:=bs ++ M2}):=by
 obtain⟨v,M,id,sz,rfl,rfl,hc⟩:=h;rcases hc with⟨rfl,rfl,rfl⟩ | ⟨rfl,hid,hne,hb⟩
 ·exact⟨_,[[.gs 0 0 0 0]]++ M,by simp;rfl,rfl,rfl,fun n ρ hn=>by simp[Ys,hn,QK]⟩
 ·have hbase: (bs ++ [[AV.gs id 0 9 l.length]]++ M).set id []=bs ++ [[AV.gs id 0 9 l.length]]++ M.set (id - (bs ++ [[AV.gs id 0 9 l.length]]).length) []:=Y2 (by simpa using hid) _;refine⟨.gs id 0 9 l.length,[[AV.gs id 0 9 l.length]]++ M.set (id - (bs ++ [[AV.gs id 0 9 l.length]]).length) [],by simp,rfl,rfl,fun n ρ hn=> ?_⟩;have hz: ¬l.length=0:=fun e=>hne (List.eq_nil_of_length_eq_zero e);have hr: (Yu l).length=l.length*9:=Z2 XD l;have hch:Yc (Yu l) 0 9 l.length=QK l:=by
   have:=XH (f:=Zl) (k:=9) XD YC l [];rw[List.append_nil]at this;exact this
  simp only[Ys,hn];rw[if_pos ⟨trivial,by omega⟩,if_neg hz,hb];simp only[Option.bind_some];rw[if_pos (by omega),hch,hbase,List.append_assoc];rfl
def AC.fstS:AC→AC
 | .seq a _=>a
 | x=>x
def AC.sndS:AC→AC
 | .seq _ b=>b
 | x=>x
def tsA (l:List Rp) (x:Rp) (i:Nat):List Tst:=((l.take i).filter fun y=>decide (Qm y.t x.t=0)).map fun y=>⟨x.b,y.b,false⟩
def tsB (x:Rp):List Tst:=if ZK x.t then [⟨x.b,x.t,false⟩]else []
def tsC (l:List Rp) (x:Rp):List Tst:=match Xt l x.t with
 | some u=>[⟨x.b,u,false⟩]
 | none=>[]
def tsD (x:Rp) (g:Bool):List Tst:=if g then [⟨x.b,x.b,false⟩]else []
def Vu (l:List Rp) (x:Rp):Option Tm:=if isB x.t Q2 then(ofT l (.mk 3 PK 0 [kid x.t 1])).map fun u=> .mk 3 QV 0 [x.b,u]else none
def tsE (l:List Rp) (x:Rp):List Tst:=match Vu l x with
 | some v=>[⟨v,.mk 3 READ 0 [x.b],false⟩]
 | none=>[]
def YH (l:List Rp) (x:Rp) (i:Nat) (g:Bool):List Tst:=tsA l x i ++ tsB x ++ tsC l x ++ tsD x g ++ tsE l x
def Vf (l:List Rp) (x:Rp):List Tm:=match Xt l x.t with
 | some u=>[u]
 | none=>[]
def XP (l:List Rp) (x:Rp):List Tm:=match Vu l x with
 | some v=>[v,.mk 3 READ 0 [x.b]]
 | none=>[]
def Wj (l:List Rp) (x:Rp):List Tm:=Vf l x ++ XP l x
structure TF (ρ:Nat→AV) (l:List Rp) (i g:Nat) (x:Rp) (p:Nat) (mk:List Tm):Prop where
 h0:ρ 0= .sl false 8 (QB l)
 h1:ρ 1= .int .i64 i
 h2:ρ 2= .int .i64 g
 h8:ρ 8= .bx (Qa x.t)
 h9:ρ 9= .bx (Qa x.b)
 h10:ρ 10= .gp p 0
 h11:ρ 11= .sl true 4 (encTs mk)
 h12:ρ 12= .fn 429 [.gp p 0]
theorem QnB {l:List Rp} {x:Rp} {i g:Nat} {bs B:List (List AV)} {ts:List Tst} {mk:List Tm} (hx:x.t.mass < 1000000∧x.b.mass < 1000000) (hT:TB bs B ts) (hl:ts.length < 1000000) (C:AC) (K:Kn) (X:Out)
  (hX: ∀ρ B,TB bs B (ts ++ tsB x)→TF ρ l i g x bs.length mk→R F.tb C ρ B K=X) (ρ:Nat→AV) (h:TF ρ l i g x bs.length mk):
  R F.tb F.f428r0.fstS ρ B (Qr F.tb C K)=X:=by
 obtain⟨h0,h1,h2,h8,h9,h10,h11,h12⟩:=h;have hp:=OR x.t B hx.1;obtain⟨B',hc,hT'⟩:=OU hT hl x.b x.t (by unfold big;omega) (by unfold big;omega);have e1:=Qg x.t;have e2:=Qg x.b;cases c:ZK x.t
 ·rw[c]at hp;have e:ts ++ tsB x=ts:=by simp[tsB,c]
  rw[e]at hX;rw[e1]at hp h8;simp[AC.fstS,F.f428r0,h8,hp];refine hX _ _ hT ⟨?_,?_,?_,?_,?_,?_,?_,?_⟩ <;> simp[h0,h1,h2,h8,h9,h10,h11,h12,e1]
 ·rw[c]at hp;have e:ts ++ tsB x=ts ++ [⟨x.b,x.t,false⟩]:=by simp[tsB,c]
  rw[e]at hX;rw[e1]at hp h8 hc;rw[e2]at hc h9;simp[AC.fstS,F.f428r0,h8,h9,h12,hp,hc];refine hX _ _ hT' ⟨?_,?_,?_,?_,?_,?_,?_,?_⟩ <;> simp[h0,h1,h2,h8,h9,h10,h11,h12,e1,e2]
theorem F1 {l:List Rp} (hl:ROk l) {t u:Tm} (ht:t.mass < 1000000) (hn:t.nodes≤401) (h:Xt l t=some u):u.mass < 500000000:=by
 unfold Xt at h;split at h
 ·cases ho:ofL l t.kids with
  | none=>rw[ho]at h;cases h
  | some us=>
   rw[ho]at h;simp only[Option.map_some,Option.some.injEq]at h;subst h;have h1:=ofL_mass hl.2 ho;have h2:=ofL_len ho;have e1:=Qo (.mk 3 t.name 0 us);have e2:=Qo t;have e3:=Z0 t;simp only[QN,Q5]at e1;have:1000000*nodesL t.kids≤1000000*400:=Nat.mul_le_mul_left _ (by omega);omega
 ·cases h
theorem B8 {l:List Rp} (hl:ROk l) {t u:Tm} (ht:t.mass < 1000000) (hn:t.nodes≤402) (h:ofT l t=some u):u.mass < 500000000:=by
 have h1:=Kt hl.2 h;have:1000000*t.nodes≤1000000*402:=Nat.mul_le_mul_left _ hn;omega
theorem QdY {n:Nat} (h:n≤100):n*56≤140737488355328:=by omega
theorem QnC {l:List Rp} {x:Rp} {i g:Nat} {bs B:List (List AV)} {ts:List Tst} (hR:ROk l) (hx:x.t.mass < 1000000∧x.b.mass < 1000000) (hn:x.t.nodes≤401) (hT:TB bs B ts) (hl:ts.length < 1000000) (C:AC) (K:Kn) (X:Out)
  (hX: ∀ρ B,TB bs B (ts ++ tsC l x)→TF ρ l i g x bs.length (Vf l x)→R F.tb C ρ B K=X) (ρ:Nat→AV) (h:TF ρ l i g x bs.length []):
  R F.tb F.f428r0.sndS.fstS ρ B (Qr F.tb C K)=X:=by
 obtain⟨h0,h1,h2,h8,h9,h10,h11,h12⟩:=h;have hp:=QiW l hR x.t hx.1 false B;have e1:=Qg x.t;have e2:=Qg x.b;cases c:Xt l x.t with
 | none=>
  rw[c,Yf]at hp;have e:tsC l x=[]:=by simp[tsC,c]
  have em:Vf l x=[]:=by simp[Vf,c]
  rw[e,em,List.append_nil]at hX;rw[e1]at hp h8;simp[AC.fstS,AC.sndS,F.f428r0,h0,h8,hp];refine hX _ _ hT ⟨?_,?_,?_,?_,?_,?_,?_,?_⟩ <;> simp[h0,h1,h2,h8,h9,h10,h11,h12,e1]
 | some u=>
  rw[c,ZV]at hp;have hum:=F1 hR hx.1 hn c;obtain⟨B',hc,hT'⟩:=OU hT hl x.b u (by unfold big;omega) (by unfold big;omega);have e:tsC l x=[⟨x.b,u,false⟩]:=by simp[tsC,c]
  have em:Vf l x=[u]:=by simp[Vf,c]
  rw[e,em]at hX;have eu:=Qg u;rw[e1]at hp h8;rw[eu]at hp hc;rw[e2]at hc h9;have hb:=QdY (n:=1) (by omega);have en:encTs []=[]:=rfl;rw[en]at h11;simp[AC.fstS,AC.sndS,F.f428r0,h0,h8,h9,h11,h12,hp,hc];refine hX _ _ hT' ⟨?_,?_,?_,?_,?_,?_,?_,?_⟩ <;> simp[h0,h1,h2,h8,h9,h10,h11,h12,e1,e2,encTs,eu]
theorem QnD {l:List Rp} {x:Rp} {i g:Nat} {bs B:List (List AV)} {ts:List Tst} {mk:List Tm} (hx:x.t.mass < 1000000∧x.b.mass < 1000000) (hT:TB bs B ts) (hl:ts.length < 1000000) (C:AC) (K:Kn) (X:Out)
  (hX: ∀ρ B,TB bs B (ts ++ tsD x (decide (g≤i)))→TF ρ l i g x bs.length mk→R F.tb C ρ B K=X) (ρ:Nat→AV) (h:TF ρ l i g x bs.length mk):
  R F.tb F.f428r0.sndS.sndS.fstS ρ B (Qr F.tb C K)=X:=by
 obtain⟨h0,h1,h2,h8,h9,h10,h11,h12⟩:=h;obtain⟨B',hc,hT'⟩:=OU hT hl x.b x.b (by unfold big;omega) (by unfold big;omega);have e2:=Qg x.b;by_cases c:g≤i
 ·have c': (g:Int)≤(i:Int):=by omega
  have e:ts ++ tsD x (decide (g≤i))=ts ++ [⟨x.b,x.b,false⟩]:=by simp[tsD,c]
  rw[e]at hX;rw[e2]at hc h9;simp[AC.fstS,AC.sndS,F.f428r0,h1,h2,h9,h12,c',hc];refine hX _ _ hT' ⟨?_,?_,?_,?_,?_,?_,?_,?_⟩ <;> simp[h0,h1,h2,h8,h9,h10,h11,h12,e2]
 ·have c': ¬(g:Int)≤(i:Int):=by omega
  have e:ts ++ tsD x (decide (g≤i))=ts:=by simp[tsD,c]
  rw[e]at hX;simp[AC.fstS,AC.sndS,F.f428r0,h1,h2,c'];refine hX _ _ hT ⟨?_,?_,?_,?_,?_,?_,?_,?_⟩ <;> simp[h0,h1,h2,h8,h9,h10,h11,h12]
theorem QnE {l:List Rp} {x:Rp} {i g:Nat} {bs B:List (List AV)} {ts:List Tst} {mk:List Tm} (hR:ROk l) (hv:thV x.t=0) (hx:x.b.mass < 1000000) (hT:TB bs B ts) (hl:ts.length < 1000000) (hmk:mk.length≤10) (C:AC) (K:Kn) (X:Out)
  (hX: ∀ρ B,TB bs B (ts ++ tsE l x)→TF ρ l i g x bs.length (mk ++ XP l x)→R F.tb C ρ B K=X) (ρ:Nat→AV) (h:TF ρ l i g x bs.length mk):
  R F.tb F.f428r0.sndS.sndS.sndS.fstS ρ B (Qr F.tb C K)=X:=by
 obtain⟨h0,h1,h2,h8,h9,h10,h11,h12⟩:=h;obtain⟨_,_,hg,hma,hno⟩:=Zj hv;have p2: ∀o,call F.tb 416 [.agg (Qa x.t),.sl o 1 [[.str [115,105,103,110]]]] B=some (.bool (isB x.t Q2),B):=fun o=>by
  have:=Ln x.t [Q2] o B (by simp);rw[BX]at this;exact this
 have e1:=Qg x.t;have e2:=Qg x.b;cases c:isB x.t Q2
 ·rw[c]at p2;have e:tsE l x=[]:=by simp[tsE,Vu,c]
  have em:XP l x=[]:=by simp[XP,Vu,c]
  rw[e,em,List.append_nil,List.append_nil]at hX;rw[e1]at p2 h8;simp[AC.fstS,AC.sndS,F.f428r0,h8,p2];refine hX _ _ hT ⟨?_,?_,?_,?_,?_,?_,?_,?_⟩ <;> simp[h0,h1,h2,h8,h9,h10,h11,h12,e1]
 ·rw[c]at p2;obtain⟨y,z,hk⟩:=Q3 hg c (by simp[Q8]);have ekd:kid x.t 1=z:=by simp[kid,hk]
  have hnn:=Z0 x.t;have hmm:=Qo x.t;rw[hk]at hnn hmm;simp only[nodesL,massL]at hnn hmm;have hpm: (Tm.mk 3 PK 0 [z]).mass < 1000000:=by simp only[Tm.mass,massL,PK,List.length_cons,List.length_nil];omega
  have hpn: (Tm.mk 3 PK 0 [z]).nodes≤402:=by simp only[Tm.nodes,nodesL];omega
  have ez:=Qg z;have ey:=Qg y;have q1: ∀o,call F.tb 417 [.str [112,107],.sl o 4 [Qa z]] B=some (.agg (Qa (.mk 3 PK 0 [z])),B):=fun o=>ST PK [z] o B;have q2:=Ir l hR (.mk 3 PK 0 [z]) false B hpm;have e3: ∀n ks,Qa (.mk 3 n 0 ks)=[.int .i64 3,.str n,.int .i64 0,.sl false 4 (encTs ks)]:=fun n ks=>by simp[Qa]
  rw[hk]at e1;simp only[encTs]at e1;cases c2:ofT l (.mk 3 PK 0 [z])with
  | none=>
   rw[c2,Yf]at q2;have e:tsE l x=[]:=by simp[tsE,Vu,c,ekd,c2]
   have em:XP l x=[]:=by simp[XP,Vu,c,ekd,c2]
   rw[e,em,List.append_nil,List.append_nil]at hX;rw[e1]at p2 h8;simp only[e3,ez,encTs]at q1 q2;simp only[ez]at p2 h8;simp[AC.fstS,AC.sndS,F.f428r0,h0,h8,p2,q1,q2];refine hX _ _ hT ⟨?_,?_,?_,?_,?_,?_,?_,?_⟩ <;> simp[h0,h1,h2,h8,h9,h10,h11,h12,e1,ez]
  | some u=>
   rw[c2,ZV]at q2;have hum:=B8 hR hpm hpn c2;have hm1: (Tm.mk 3 QV 0 [x.b,u]).mass < big:=by simp only[Tm.mass,massL,QV,List.length_cons,List.length_nil,big];omega
   have hm2: (Tm.mk 3 READ 0 [x.b]).mass < big:=by simp only[Tm.mass,massL,READ,List.length_cons,List.length_nil,big];omega
   obtain⟨B',hc,hT'⟩:=OU hT hl (.mk 3 QV 0 [x.b,u]) (.mk 3 READ 0 [x.b]) hm1 hm2;have e:tsE l x=[⟨.mk 3 QV 0 [x.b,u],.mk 3 READ 0 [x.b],false⟩]:=by simp[tsE,Vu,c,ekd,c2]
   have em:XP l x=[.mk 3 QV 0 [x.b,u],.mk 3 READ 0 [x.b]]:=by simp[XP,Vu,c,ekd,c2]
   rw[e,em]at hX;have eu:=Qg u;have q3: ∀o B,call F.tb 417 [.str [111,112,101,110],.sl o 4 [Qa x.b,Qa u]] B=some (.agg (Qa (.mk 3 QV 0 [x.b,u])),B):=fun o B=>ST QV [x.b,u] o B;have q4: ∀o B,call F.tb 417 [.str [114,101,97,100],.sl o 4 [Qa x.b]] B=some (.agg (Qa (.mk 3 READ 0 [x.b])),B):=fun o B=>ST READ [x.b] o B;have hb: (mk.length+2)*56≤140737488355328:=QdY (by omega);rw[e1]at p2 h8;rw[e2]at h9;simp only[e3,ez,e2,eu,encTs]at q1 q2 q3 q4 hc;simp only[ez]at p2 h8;simp[AC.fstS,AC.sndS,F.f428r0,h0,h8,h9,h11,h12,p2,q1,q2,q3,q4,hc,hb];refine hX _ _ hT' ⟨?_,?_,?_,?_,?_,?_,?_,?_⟩ <;> simp[h0,h1,h2,h8,h9,h10,h11,h12,e1,ez,e2,eu,← QP,encTs,e3]
theorem QnF {l:List Rp} {x:Rp} {i g:Nat} {bs B:List (List AV)} {ts:List Tst} {mk:List Tm} (hT:TB bs B ts) (ρ:Nat→AV) (h:TF ρ l i g x bs.length mk):
  R F.tb F.f428r0.sndS.sndS.sndS.sndS ρ B (Qt F.f428 bs)=some (.tup [.sl false 9 (QK ts),.sl false 4 (encTs mk)],bs):=by
 obtain⟨h0,h1,h2,h8,h9,h10,h11,h12⟩:=h;obtain⟨v,M2,b1,b2,b3,b4⟩:=Qnn hT;have hg:=Vd ts;simp[AC.fstS,AC.sndS,F.f428r0,h10,h11,b1,b2,b3,b4,hg]
theorem QnA {l:List Rp} {x:Rp} {i g:Nat} {bs B:List (List AV)} {ts:List Tst} (hR:ROk l) (hv:thV x.t=0) (hx:x.b.mass < 1000000) (hT:TB bs B ts) (hl:ts.length < 900000) (ρ:Nat→AV) (h:TF ρ l i g x bs.length []):
  R F.tb F.f428r0 ρ B (Qt F.f428 bs)=some (.tup [.sl false 9 (QK (ts ++ tsB x ++ tsC l x ++ tsD x (decide (g≤i))++ tsE l x)),.sl false 4 (encTs (Wj l x))],bs):=by
 obtain⟨_,_,hg,hma,hno⟩:=Zj hv;have n1: (tsB x).length≤1:=by unfold tsB;split <;> simp
 have n2: (tsC l x).length≤1:=by unfold tsC;split <;> simp
 have n3: (tsD x (decide (g≤i))).length≤1:=by unfold tsD;split <;> simp
 have n4: (Vf l x).length≤1:=by unfold Vf;split <;> simp
 have e1:F.f428r0= .seq F.f428r0.fstS F.f428r0.sndS:=rfl;rw[e1,Ts];refine QnB ⟨by omega,hx⟩ hT (by omega) _ _ _ ?_ ρ h;intro ρ B hT h;have e2:F.f428r0.sndS= .seq F.f428r0.sndS.fstS F.f428r0.sndS.sndS:=rfl;rw[e2,Ts];refine QnC hR ⟨by omega,hx⟩ (by omega) hT (by rw[List.length_append];omega) _ _ _ ?_ ρ h;intro ρ B hT h;have e3:F.f428r0.sndS.sndS= .seq F.f428r0.sndS.sndS.fstS F.f428r0.sndS.sndS.sndS:=rfl;rw[e3,Ts];refine QnD ⟨by omega,hx⟩ hT (by simp only[List.length_append];omega) _ _ _ ?_ ρ h;intro ρ B hT h;have e4:F.f428r0.sndS.sndS.sndS= .seq F.f428r0.sndS.sndS.sndS.fstS F.f428r0.sndS.sndS.sndS.sndS:=rfl;rw[e4,Ts];refine QnE hR hv hx hT (by simp only[List.length_append];omega) (by omega) _ _ _ ?_ ρ h;intro ρ B hT h;exact QnF hT ρ h
theorem Qnz {l:List Rp} {x:Rp} {i g:Nat} {bs:List (List AV)} (A:List Rp) (hA:A.length < 200000) (hAm: ∀y∈A,y.t.mass < 1000000∧y.b.mass < 1000000) (hx:x.t.mass < 1000000∧x.b.mass < 1000000) (C:AC) (K:Kn) (X:Out):
  ∀(post pre:List Rp) (ts:List Tst) (B:List (List AV)) (ρ:Nat→AV),A=pre ++ post→TB bs B ts→ts.length≤pre.length→TF ρ l i g x bs.length []→ρ 32= .sl false 8 (QB A)→ρ 33= .int .i64 A.length→ρ 34= .int .i64 pre.length→
   (∀ρ B,TB bs B (ts ++ (post.filter fun y=>decide (Qm y.t x.t=0)).map fun y=>⟨x.b,y.b,false⟩)→TF ρ l i g x bs.length []→R F.tb C ρ B K=X)→
  R F.tb (.loop F.f428l0) ρ B (Ql 0 (Qr F.tb C K))=X:=by
 intro post
 induction post with
 | nil=>
  intro pre ts B ρ hk hT htl h h32 h33 h34 hX;simp only[List.append_nil]at hk;rw[← hk]at h34;obtain⟨h0,h1,h2,h8,h9,h10,h11,h12⟩:=h;rw[Qc F.f428l0.eq_1];simp[h32,h33,h34];refine hX _ _ (by simpa using hT) ⟨?_,?_,?_,?_,?_,?_,?_,?_⟩ <;> simp[h0,h1,h2,h8,h9,h10,h11,h12]
 | cons y post IH=>
  intro pre ts B ρ hk hT htl h h32 h33 h34 hX;have hg:=YV (Qp hk);have hll:=Qx hk;have hw1:=wr1 pre.length (by omega);have hlt:=Qy hk;obtain⟨hym,hyb⟩:=hAm y (by rw[hk];simp);have hs:=OT y.t x.t B (by unfold big;omega) (by unfold big;omega);obtain⟨B',hc,hT'⟩:=OU hT (by omega) x.b y.b (by unfold big;omega) (by unfold big;omega);have i1:=fun ρ=>IH (pre ++ [y]) ts B ρ (by rw[hk];simp) hT (by simp;omega);have i2:=fun ρ=>IH (pre ++ [y]) (ts ++ [⟨x.b,y.b,false⟩]) B' ρ (by rw[hk];simp) hT' (by simp;omega);obtain⟨h0,h1,h2,h8,h9,h10,h11,h12⟩:=h;have e1:=Qg x.t;have e2:=Qg x.b;have e3:=Qg y.t;have e4:=Qg y.b;have er:QZ y=[.int .i64 y.t.kind,.str y.t.name,.int .i64 y.t.sort,.sl false 4 (encTs y.t.kids),.int .i64 y.b.kind,.str y.b.name,.int .i64 y.b.sort,.sl false 4 (encTs y.b.kids)]:=rfl;rw[er]at hg;rw[e1,e3]at hs;rw[e2,e4]at hc;rw[e1]at h8;rw[e2]at h9;rw[Qc F.f428l0.eq_1];by_cases c:Qm y.t x.t=0
  ·simp[h32,h33,h34,hg,hlt,hw1,h8,h9,h12,hs,c,hc];refine i2 _ ⟨?_,?_,?_,?_,?_,?_,?_,?_⟩ ?_ ?_ ?_ (fun ρ B hT h=>hX ρ B (by simpa[c]using hT) h) <;> simp[h0,h1,h2,h8,h9,h10,h11,h12,h32,h33,e1,e2]
  ·simp[h32,h33,h34,hg,hlt,hw1,h8,h9,h12,hs,c];refine i1 _ ⟨?_,?_,?_,?_,?_,?_,?_,?_⟩ ?_ ?_ ?_ (fun ρ B hT h=>hX ρ B (by simpa[c]using hT) h) <;> simp[h0,h1,h2,h8,h9,h10,h11,h12,h32,h33,e1,e2]
theorem QiZ {l:List Rp} (hR:ROk l) (hl:l.length < 200000) {x:Rp} {i g:Nat} (hi:l[i]? =some x) (hv:thV x.t=0) (hx:x.b.mass < 1000000) (o:Bool) (bs:List (List AV)):
  call F.tb 428 [.sl o 8 (QB l),.int .i64 i,.int .i64 g] bs=some (.tup [.sl false 9 (QK (YH l x i (decide (g≤i)))),.sl false 4 (encTs (Wj l x))],bs):=by
 obtain⟨_,_,hg,hma,hno⟩:=Zj hv;have hil:=(List.getElem?_eq_some_iff.1 hi).1;have hgt:=YV hi;have hxm:x.t.mass < 1000000∧x.b.mass < 1000000:=⟨by omega,hx⟩;have htk: (QB l).take i=QB (l.take i):=by simp[QB]
 have hil2: (i:Int)≤(l.length:Int):=by omega
 have htl: (l.take i).length=i:=by simp;omega
 have hml:min i l.length=i:=by omega
 have hml2:min (i:Int) (l.length:Int)=(i:Int):=by omega
 have hloop:=fun ρ=>Qnz (l:=l) (x:=x) (i:=i) (g:=g) (bs:=bs) (l.take i) (by omega) (fun y hy=>hR.2 y (List.mem_of_mem_take hy)) hxm F.f428r0 (Qt F.f428 bs)
  (some (.tup [.sl false 9 (QK (YH l x i (decide (g≤i)))),.sl false 4 (encTs (Wj l x))],bs)) (l.take i) [] [] _ ρ rfl (Qno bs) (by simp)
 have e1:=Qg x.t;have e2:=Qg x.b;have er:QZ x=[.int .i64 x.t.kind,.str x.t.name,.int .i64 x.t.sort,.sl false 4 (encTs x.t.kids),.int .i64 x.b.kind,.str x.b.name,.int .i64 x.b.sort,.sl false 4 (encTs x.b.kids)]:=rfl;rw[er]at hgt;rw[Qb F.tb_428 _ _ rfl];simp[-getElem?_pos,Ya,F.f428C,hgt,htk,hil2,QX,hml,hml2,-List.map_take];refine hloop _ ⟨?_,?_,?_,?_,?_,?_,?_,?_⟩ ?_ ?_ ?_ (fun ρ B hT h=> ?_) <;> (try simp[e1,e2,encTs,htl,hml,hml2]);have hfl: (tsA l x i).length≤i:=by
  unfold tsA;rw[List.length_map];have:=List.length_filter_le (fun y:Rp=>decide (Qm y.t x.t=0)) (l.take i);omega
 exact QnA hR hv hx (ts:=tsA l x i) hT (by omega) ρ h
theorem OW (a b:Tm) (bs:List (List AV)):call F.tb 459 [.agg (Qa a),.agg (Qa b)] bs=some (.agg (Zl ⟨a,b,false⟩),bs):=by
 have ea:=Qg a;have eb:=Qg b;rw[Qb F.tb_459 _ _ rfl,ZM];simp[F.f459C,ea,eb]
theorem MM {n:Nat} (h:n≤2000000):n*120≤140737488355328:=by omega
structure TG (ρ:Nat→AV) (l:List Rp) (i:Nat) (g:Bool) (x:Rp) (ts:List Tst):Prop where
 h0:ρ 0= .sl false 8 (QB l)
 h1:ρ 1= .int .i64 i
 h2:ρ 2= .bool g
 h7:ρ 7= .bx (Qa x.t)
 h8:ρ 8= .bx (Qa x.b)
 h9:ρ 9= .sl true 9 (QK ts)
theorem Qnv {l:List Rp} {x:Rp} {i:Nat} {g:Bool} {bs:List (List AV)} {ts:List Tst} (hx:x.t.mass < 1000000) (hl:ts.length < 1000000) (C:AC) (K:Kn) (X:Out)
  (hX: ∀ρ,TG ρ l i g x (ts ++ tsB x)→R F.tb C ρ bs K=X) (ρ:Nat→AV) (h:TG ρ l i g x ts):
  R F.tb F.f458r0.fstS ρ bs (Qr F.tb C K)=X:=by
 obtain⟨h0,h1,h2,h7,h8,h9⟩:=h;have hp:=OS x.t bs hx;have hc:=OW x.b x.t bs;have e1:=Qg x.t;have e2:=Qg x.b;have hb:=MM (n:=ts.length+1) (by omega);have hln:=XD ⟨x.b,x.t,false⟩;have hst:=YC ⟨x.b,x.t,false⟩;cases c:ZK x.t
 ·rw[c]at hp;have e:ts ++ tsB x=ts:=by simp[tsB,c]
  rw[e]at hX;rw[e1]at hp h7;simp[AC.fstS,F.f458r0,h7,hp];refine hX _ ⟨?_,?_,?_,?_,?_,?_⟩ <;> simp[h0,h1,h2,h7,h8,h9,e1]
 ·rw[c]at hp;have e:QK (ts ++ tsB x)=QK ts ++ [Zl ⟨x.b,x.t,false⟩]:=by simp[tsB,c,QK]
  rw[e1]at hp h7 hc;rw[e2]at hc h8;generalize Zl ⟨x.b,x.t,false⟩=q at *;simp[AC.fstS,F.f458r0,h7,h8,h9,hp,hc,Z9,hb,hln,hst];refine hX _ ⟨?_,?_,?_,?_,?_,?_⟩ <;> simp[h0,h1,h2,h7,h8,h9,e1,e2,e]
theorem Qnw {l:List Rp} {x:Rp} {i:Nat} {g:Bool} {bs:List (List AV)} {ts:List Tst} (hR:ROk l) (hx:x.t.mass < 1000000) (hl:ts.length < 1000000) (C:AC) (K:Kn) (X:Out)
  (hX: ∀ρ,TG ρ l i g x (ts ++ tsC l x)→R F.tb C ρ bs K=X) (ρ:Nat→AV) (h:TG ρ l i g x ts):
  R F.tb F.f458r0.sndS.fstS ρ bs (Qr F.tb C K)=X:=by
 obtain⟨h0,h1,h2,h7,h8,h9⟩:=h;have hp:=Bt l hR x.t hx false bs;have e1:=Qg x.t;have e2:=Qg x.b;have hb:=MM (n:=ts.length+1) (by omega);cases c:Xt l x.t with
 | none=>
  rw[c,Yf]at hp;have e:ts ++ tsC l x=ts:=by simp[tsC,c]
  rw[e]at hX;rw[e1]at hp h7;simp[AC.fstS,AC.sndS,F.f458r0,h0,h7,hp];refine hX _ ⟨?_,?_,?_,?_,?_,?_⟩ <;> simp[h0,h1,h2,h7,h8,h9,e1]
 | some u=>
  rw[c,ZV]at hp;have hc:=OW x.b u bs;have hln:=XD ⟨x.b,u,false⟩;have hst:=YC ⟨x.b,u,false⟩;have e:QK (ts ++ tsC l x)=QK ts ++ [Zl ⟨x.b,u,false⟩]:=by simp[tsC,c,QK]
  have eu:=Qg u;rw[e1]at hp h7;rw[eu]at hp hc;rw[e2]at hc h8;generalize Zl ⟨x.b,u,false⟩=q at *;simp[AC.fstS,AC.sndS,F.f458r0,h0,h7,h8,h9,hp,hc,Z9,hb,hln,hst];refine hX _ ⟨?_,?_,?_,?_,?_,?_⟩ <;> simp[h0,h1,h2,h7,h8,h9,e1,e2,e]
theorem Qnx {l:List Rp} {x:Rp} {i:Nat} {g:Bool} {bs:List (List AV)} {ts:List Tst} (hl:ts.length < 1000000) (C:AC) (K:Kn) (X:Out)
  (hX: ∀ρ,TG ρ l i g x (ts ++ tsD x g)→R F.tb C ρ bs K=X) (ρ:Nat→AV) (h:TG ρ l i g x ts):
  R F.tb F.f458r0.sndS.sndS.fstS ρ bs (Qr F.tb C K)=X:=by
 obtain⟨h0,h1,h2,h7,h8,h9⟩:=h;have hc:=OW x.b x.b bs;have e2:=Qg x.b;have hb:=MM (n:=ts.length+1) (by omega);have hln:=XD ⟨x.b,x.b,false⟩;have hst:=YC ⟨x.b,x.b,false⟩;cases g
 ·have e:ts ++ tsD x false=ts:=by simp[tsD]
  rw[e]at hX;simp[AC.fstS,AC.sndS,F.f458r0,h2];refine hX _ ⟨?_,?_,?_,?_,?_,?_⟩ <;> simp[h0,h1,h2,h7,h8,h9]
 ·have e:QK (ts ++ tsD x true)=QK ts ++ [Zl ⟨x.b,x.b,false⟩]:=by simp[tsD,QK]
  rw[e2]at hc h8;generalize Zl ⟨x.b,x.b,false⟩=q at *;simp[AC.fstS,AC.sndS,F.f458r0,h2,h8,h9,hc,Z9,hb,hln,hst];refine hX _ ⟨?_,?_,?_,?_,?_,?_⟩ <;> simp[h0,h1,h2,h7,h8,h9,e2,e]
theorem Qny {l:List Rp} {x:Rp} {i:Nat} {g:Bool} {bs:List (List AV)} {ts:List Tst} (hR:ROk l) (hv:thV x.t=0) (hx:x.b.mass < 1000000) (hl:ts.length < 1000000) (C:AC) (K:Kn) (X:Out)
  (hX: ∀ρ,TG ρ l i g x (ts ++ tsE l x)→R F.tb C ρ bs K=X) (ρ:Nat→AV) (h:TG ρ l i g x ts):
  R F.tb F.f458r0.sndS.sndS.sndS.fstS ρ bs (Qr F.tb C K)=X:=by
 obtain⟨h0,h1,h2,h7,h8,h9⟩:=h;obtain⟨_,_,hg,hma,hno⟩:=Zj hv;have p2:=Un x.t Q2 bs;simp only[Q2]at p2;have hb:=MM (n:=ts.length+1) (by omega);have e1:=Qg x.t;have e2:=Qg x.b;cases c:isB x.t Q2
 ·have e:ts ++ tsE l x=ts:=by simp[tsE,Vu,c]
  simp only[Q2]at c;rw[c]at p2;rw[e]at hX;rw[e1]at p2 h7;simp[AC.fstS,AC.sndS,F.f458r0,h7,p2];refine hX _ ⟨?_,?_,?_,?_,?_,?_⟩ <;> simp[h0,h1,h2,h7,h8,h9,e1]
 ·obtain⟨y,z,hk⟩:=Q3 hg c (by simp[Q8]);have ekd:kid x.t 1=z:=by simp[kid,hk]
  have hmm:=Qo x.t;rw[hk]at hmm;simp only[massL]at hmm;have hpm: (Tm.mk 3 PK 0 [z]).mass < 1000000:=by simp only[Tm.mass,massL,PK,List.length_cons,List.length_nil];omega
  have ez:=Qg z;have q1: ∀o,call F.tb 120 [.str [112,107],.sl o 4 [Qa z]] bs=some (.agg (Qa (.mk 3 PK 0 [z])),bs):=fun o=>Y4 PK [z] o bs (by simp);have q2:=Lo l hR (.mk 3 PK 0 [z]) false bs hpm;have e3: ∀n ks,Qa (.mk 3 n 0 ks)=[.int .i64 3,.str n,.int .i64 0,.sl false 4 (encTs ks)]:=fun n ks=>by simp[Qa]
  rw[hk]at e1;simp only[encTs]at e1;cases c2:ofT l (.mk 3 PK 0 [z])with
  | none=>
   rw[c2,Yf]at q2;have e:ts ++ tsE l x=ts:=by simp[tsE,Vu,c,ekd,c2]
   simp only[Q2]at c;rw[c]at p2;rw[e]at hX;rw[e1]at p2 h7;simp only[e3,ez,encTs]at q1 q2;simp only[ez]at p2 h7;simp[AC.fstS,AC.sndS,F.f458r0,h0,h7,p2,q1,q2];refine hX _ ⟨?_,?_,?_,?_,?_,?_⟩ <;> simp[h0,h1,h2,h7,h8,h9,e1,ez]
  | some u=>
   rw[c2,ZV]at q2;have hc:=OW (.mk 3 QV 0 [x.b,u]) (.mk 3 READ 0 [x.b]) bs;have hln:=XD ⟨.mk 3 QV 0 [x.b,u],.mk 3 READ 0 [x.b],false⟩;have hst:=YC ⟨.mk 3 QV 0 [x.b,u],.mk 3 READ 0 [x.b],false⟩;have e:QK (ts ++ tsE l x)=QK ts ++ [Zl ⟨.mk 3 QV 0 [x.b,u],.mk 3 READ 0 [x.b],false⟩]:=by simp[tsE,Vu,c,ekd,c2,QK]
   generalize Zl ⟨.mk 3 QV 0 [x.b,u],.mk 3 READ 0 [x.b],false⟩=q at *;simp only[Q2]at c;rw[c]at p2;have eu:=Qg u;have q3: ∀o,call F.tb 120 [.str [111,112,101,110],.sl o 4 [Qa x.b,Qa u]] bs=some (.agg (Qa (.mk 3 QV 0 [x.b,u])),bs):=fun o=>Y4 QV [x.b,u] o bs (by simp);have q4: ∀o,call F.tb 120 [.str [114,101,97,100],.sl o 4 [Qa x.b]] bs=some (.agg (Qa (.mk 3 READ 0 [x.b])),bs):=fun o=>Y4 READ [x.b] o bs (by simp);rw[e1]at p2 h7;rw[e2]at h8;simp only[e3,ez,e2,eu,encTs]at q1 q2 q3 q4 hc;simp only[ez]at p2 h7;simp[AC.fstS,AC.sndS,F.f458r0,h0,h7,h8,h9,p2,q1,q2,q3,q4,hc,hb,Z9,hln,hst];refine hX _ ⟨?_,?_,?_,?_,?_,?_⟩ <;> simp[h0,h1,h2,h7,h8,h9,e1,ez,e2,e]
theorem Qnu {l:List Rp} {x:Rp} {i:Nat} {g:Bool} {bs:List (List AV)} {ts:List Tst} (hR:ROk l) (hv:thV x.t=0) (hx:x.b.mass < 1000000) (hl:ts.length < 900000) (ρ:Nat→AV) (h:TG ρ l i g x ts):
  R F.tb F.f458r0 ρ bs (Qt F.f458 bs)=some (.sl false 9 (QK (ts ++ tsB x ++ tsC l x ++ tsD x g ++ tsE l x)),bs):=by
 obtain⟨_,_,hg,hma,hno⟩:=Zj hv;have n1: (tsB x).length≤1:=by unfold tsB;split <;> simp
 have n2: (tsC l x).length≤1:=by unfold tsC;split <;> simp
 have n3: (tsD x g).length≤1:=by unfold tsD;split <;> simp
 have e1:F.f458r0= .seq F.f458r0.fstS F.f458r0.sndS:=rfl;rw[e1,Ts];refine Qnv (by omega) (by omega) _ _ _ ?_ ρ h;intro ρ h;have e2:F.f458r0.sndS= .seq F.f458r0.sndS.fstS F.f458r0.sndS.sndS:=rfl;rw[e2,Ts];refine Qnw hR (by omega) (by rw[List.length_append];omega) _ _ _ ?_ ρ h;intro ρ h;have e3:F.f458r0.sndS.sndS= .seq F.f458r0.sndS.sndS.fstS F.f458r0.sndS.sndS.sndS:=rfl;rw[e3,Ts];refine Qnx (by simp only[List.length_append];omega) _ _ _ ?_ ρ h;intro ρ h;have e4:F.f458r0.sndS.sndS.sndS= .seq F.f458r0.sndS.sndS.sndS.fstS F.f458r0.sndS.sndS.sndS.sndS:=rfl;rw[e4,Ts];refine Qny hR hv hx (by simp only[List.length_append];omega) _ _ _ ?_ ρ h;intro ρ h;obtain⟨h0,h1,h2,h7,h8,h9⟩:=h;have hgp:=Vd (ts ++ tsB x ++ tsC l x ++ tsD x g ++ tsE l x);generalize ts ++ tsB x ++ tsC l x ++ tsD x g ++ tsE l x=Q at *;simp[AC.fstS,AC.sndS,F.f458r0,h9,hgp]
theorem Qnt {l:List Rp} {x:Rp} {i:Nat} {g:Bool} {bs:List (List AV)} (hR:ROk l) (hil:i≤l.length) (hx:x.t.mass < 1000000∧x.b.mass < 1000000) (C:AC) (K:Kn) (X:Out):
  ∀(post pre:List Rp) (ts:List Tst) (ρ:Nat→AV),l.take i=pre ++ post→ts.length≤pre.length→TG ρ l i g x ts→ρ 10= .int .i64 pre.length→
   (∀ρ,TG ρ l i g x (ts ++ (post.filter fun y=>decide (Qm y.t x.t=0)).map fun y=>⟨x.b,y.b,false⟩)→R F.tb C ρ bs K=X)→
  R F.tb (.loop F.f458l0) ρ bs (Ql 0 (Qr F.tb C K))=X:=by
 have hlen:=hR.1;have hti: (l.take i).length=i:=by simp;omega
 intro post
 induction post with
 | nil=>
  intro pre ts ρ hk htl h h10 hX;simp only[List.append_nil]at hk;rw[← hk,hti]at h10;obtain⟨h0,h1,h2,h7,h8,h9⟩:=h;rw[Qc F.f458l0.eq_1];simp[h1,h10];refine hX _ ⟨?_,?_,?_,?_,?_,?_⟩ <;> simp[h0,h1,h2,h7,h8,h9]
 | cons y post IH=>
  intro pre ts ρ hk htl h h10 hX;have hll:i=pre.length+ (post.length+1):=by rw[← hti,hk];simp
  have hly:l[pre.length]? =some y:=by
   have h1: (l.take i)[pre.length]? =some y:=by rw[hk];simp
   rw[List.getElem?_take,if_pos (by omega)]at h1;exact h1
  have hg:=YV hly;have hw1:=wr1 pre.length (by omega);have hlt: (pre.length:Int) < (i:Int):=by omega
  obtain⟨hym,hyb⟩:=hR.2 y (List.mem_of_getElem? hly);have hs:=Xa y.t x.t bs (by unfold big;omega) (by unfold big;omega);have hc:=OW x.b y.b bs;have hln:=XD ⟨x.b,y.b,false⟩;have hst:=YC ⟨x.b,y.b,false⟩;have hb:=MM (n:=ts.length+1) (by omega);have i1:=fun ρ=>IH (pre ++ [y]) ts ρ (by rw[hk];simp) (by simp;omega);have i2:=fun ρ=>IH (pre ++ [y]) (ts ++ [⟨x.b,y.b,false⟩]) ρ (by rw[hk];simp) (by simp;omega);obtain⟨h0,h1,h2,h7,h8,h9⟩:=h;have e:QK (ts ++ [⟨x.b,y.b,false⟩])=QK ts ++ [Zl ⟨x.b,y.b,false⟩]:=by simp[QK]
  have e1:=Qg x.t;have e2:=Qg x.b;have e3:=Qg y.t;have e4:=Qg y.b;have er:QZ y=[.int .i64 y.t.kind,.str y.t.name,.int .i64 y.t.sort,.sl false 4 (encTs y.t.kids),.int .i64 y.b.kind,.str y.b.name,.int .i64 y.b.sort,.sl false 4 (encTs y.b.kids)]:=rfl;rw[er]at hg;rw[e1,e3]at hs;rw[e2,e4]at hc;rw[e1]at h7;rw[e2]at h8;generalize Zl ⟨x.b,y.b,false⟩=q at *;rw[Qc F.f458l0.eq_1];by_cases c:Qm y.t x.t=0
  ·simp[-getElem?_pos,Ya,h0,h1,h10,hg,hlt,hw1,h7,h8,h9,hs,c,hc,hln,hst,hb,Z9];refine i2 _ ⟨?_,?_,?_,?_,?_,?_⟩ ?_ (fun ρ h=>hX ρ (by simpa[c]using h)) <;> simp[h0,h1,h2,h7,h8,h9,e1,e2,e]
  ·simp[-getElem?_pos,Ya,h0,h1,h10,hg,hlt,hw1,h7,h8,h9,hs,c];refine i1 _ ⟨?_,?_,?_,?_,?_,?_⟩ ?_ (fun ρ h=>hX ρ (by simpa[c]using h)) <;> simp[h0,h1,h2,h7,h8,h9,e1,e2]
theorem Qjd {l:List Rp} (hR:ROk l) (hl:l.length < 200000) {x:Rp} {i:Nat} {g:Bool} (hi:l[i]? =some x) (hv:thV x.t=0) (hx:x.b.mass < 1000000) (o:Bool) (bs:List (List AV)):
  call F.tb 458 [.sl o 8 (QB l),.int .i64 i,.bool g] bs=some (.sl false 9 (QK (YH l x i g)),bs):=by
 obtain⟨_,_,hg,hma,hno⟩:=Zj hv;have hil:=(List.getElem?_eq_some_iff.1 hi).1;have hgt:=YV hi;have hxm:x.t.mass < 1000000∧x.b.mass < 1000000:=⟨by omega,hx⟩;have hloop:=fun ρ=>Qnt (l:=l) (x:=x) (i:=i) (g:=g) (bs:=bs) hR (by omega) hxm F.f458r0 (Qt F.f458 bs)
  (some (.sl false 9 (QK (YH l x i g)),bs)) (l.take i) [] [] ρ rfl (by simp)
 have e1:=Qg x.t;have e2:=Qg x.b;have er:QZ x=[.int .i64 x.t.kind,.str x.t.name,.int .i64 x.t.sort,.sl false 4 (encTs x.t.kids),.int .i64 x.b.kind,.str x.b.name,.int .i64 x.b.sort,.sl false 4 (encTs x.b.kids)]:=rfl;rw[er]at hgt;rw[Qb F.tb_458 _ _ rfl];simp[-getElem?_pos,Ya,F.f458C,hgt,QX];refine hloop _ ⟨?_,?_,?_,?_,?_,?_⟩ ?_ (fun ρ h=> ?_) <;> (try simp[e1,e2,QK]);have hfl: (tsA l x i).length≤i:=by
  unfold tsA;rw[List.length_map];have:=List.length_filter_le (fun y:Rp=>decide (Qm y.t x.t=0)) (l.take i);have h2: (l.take i).length≤i:=by simp;omega
  omega
 exact Qnu hR hv hx (ts:=tsA l x i) (by omega) ρ h
def Rg (f:Fr) (l:List Rp) (x:Rp):Bool:=(Wj l x).any (Yt f)
theorem Ht {l:List Rp} (hR:ROk l) {x:Rp} (hv:thV x.t=0) (hx:x.b.mass < 1000000): ∀y∈Wj l x,y.mass < big:=by
 obtain⟨_,_,hg,hma,hno⟩:=Zj hv;intro y hy;unfold Wj at hy;rcases List.mem_append.1 hy with hy | hy
 ·unfold Vf at hy;cases c:Xt l x.t with
  | none=>rw[c]at hy;cases hy
  | some u=>
   rw[c,List.mem_singleton]at hy;subst hy;have:=F1 hR (by omega) (by omega) c;unfold big;omega
 ·unfold XP Vu at hy;cases c:isB x.t Q2
  ·rw[c]at hy;simp at hy
  ·rw[c]at hy;obtain⟨y',z,hk⟩:=Q3 hg c (by simp[Q8]);have ekd:kid x.t 1=z:=by simp[kid,hk]
   have hnn:=Z0 x.t;have hmm:=Qo x.t;rw[hk]at hnn hmm;simp only[nodesL,massL]at hnn hmm;have hpm: (Tm.mk 3 PK 0 [z]).mass < 1000000:=by simp only[Tm.mass,massL,PK,List.length_cons,List.length_nil];omega
   have hpn: (Tm.mk 3 PK 0 [z]).nodes≤402:=by simp only[Tm.nodes,nodesL];omega
   rw[ekd]at hy;simp only[if_true]at hy;cases c2:ofT l (.mk 3 PK 0 [z])with
   | none=>rw[c2]at hy;simp at hy
   | some u=>
    rw[c2]at hy;have hum:=B8 hR hpm hpn c2;simp only[Option.map_some,List.mem_cons,List.mem_nil_iff,or_false]at hy;rcases hy with rfl | rfl
    ·simp only[Tm.mass,massL,QV,List.length_cons,List.length_nil,big];omega
    ·simp only[Tm.mass,massL,READ,List.length_cons,List.length_nil,big];omega
theorem Qjc (f:Fr) (hf:FOk f) (hM:massL f.t < 1000000) {l:List Rp} (hR:ROk l) {x:Rp} {i:Nat} (hi:l[i]? =some x) (hv:thV x.t=0) (hx:x.b.mass < 1000000) (o:Bool) (bs:List (List AV)):
  call F.tb 457 [.agg (Qj f),.sl o 8 (QB l),.int .i64 i] bs=some (.bool (!Rg f l x),bs):=by
 obtain⟨_,_,hg,hma,hno⟩:=Zj hv;have hmm:=Ht hR hv hx;have hgt:=YV hi;have hp:=Bt l hR x.t (by omega) false bs;have p2:=Un x.t Q2 bs;simp only[Q2]at p2;have hls:=fun r hr=>Bu f hf hM r hr bs;have e1:=Qg x.t;have e2:=Qg x.b;have er:QZ x=[.int .i64 x.t.kind,.str x.t.name,.int .i64 x.t.sort,.sl false 4 (encTs x.t.kids),.int .i64 x.b.kind,.str x.b.name,.int .i64 x.b.sort,.sl false 4 (encTs x.b.kids)]:=rfl;have hte:Qj f=[.sl false 4 (encTs f.s),.sl false 4 (encTs f.t)]:=rfl;rw[er]at hgt;rw[hte]at hls ⊢;unfold Rg;unfold Wj at hmm ⊢;rw[Qb F.tb_457 _ _ rfl];have key: ∀C:Bool,(∀y∈XP l x,y.mass < big)→∀ρ:Nat→AV,ρ 1= .sl false 8 (QB l)→ρ 3= .bx [.sl false 4 (encTs f.s),.sl false 4 (encTs f.t)]→ρ 7= .bx (Qa x.t)→ρ 8= .bx (Qa x.b)→
   R F.tb F.f457C.sndS.sndS.sndS ρ bs (Qt F.f457 bs)=some (.bool (!(XP l x).any (Yt f)),bs):=by
  intro _ hmE ρ h1 h3 h7 h8;cases c:isB x.t Q2
  ·have em:XP l x=[]:=by simp[XP,Vu,c]
   simp only[Q2]at c;rw[c,e1]at p2;rw[e1]at h7;rw[em];simp[AC.sndS,F.f457C,h1,h3,h7,p2]
  ·obtain⟨y,z,hk⟩:=Q3 hg c (by simp[Q8]);have ekd:kid x.t 1=z:=by simp[kid,hk]
   have hmx:=Qo x.t;rw[hk]at hmx;simp only[massL]at hmx;have hpm: (Tm.mk 3 PK 0 [z]).mass < 1000000:=by simp only[Tm.mass,massL,PK,List.length_cons,List.length_nil];omega
   have ez:=Qg z;have q1: ∀o,call F.tb 120 [.str [112,107],.sl o 4 [Qa z]] bs=some (.agg (Qa (.mk 3 PK 0 [z])),bs):=fun o=>Y4 PK [z] o bs (by simp);have q2:=Lo l hR (.mk 3 PK 0 [z]) false bs hpm;have e3: ∀n ks,Qa (.mk 3 n 0 ks)=[.int .i64 3,.str n,.int .i64 0,.sl false 4 (encTs ks)]:=fun n ks=>by simp[Qa]
   rw[hk]at e1;simp only[encTs]at e1;cases c2:ofT l (.mk 3 PK 0 [z])with
   | none=>
    have em:XP l x=[]:=by simp[XP,Vu,c,ekd,c2]
    rw[c2,Yf]at q2;simp only[Q2]at c;rw[c,e1]at p2;rw[e1]at h7;simp only[e3,ez,encTs]at q1 q2;simp only[ez]at p2 h7;rw[em];simp[AC.sndS,F.f457C,h1,h3,h7,p2,q1,q2]
   | some u=>
    have em:XP l x=[.mk 3 QV 0 [x.b,u],.mk 3 READ 0 [x.b]]:=by simp[XP,Vu,c,ekd,c2]
    rw[em]at hmE;have l1:=hls (.mk 3 QV 0 [x.b,u]) (hmE _ (by simp));have l2:=hls (.mk 3 READ 0 [x.b]) (hmE _ (by simp));have eA: ([Tm.mk 3 QV 0 [x.b,u],Tm.mk 3 READ 0 [x.b]].any (Yt f))=(Yt f (.mk 3 QV 0 [x.b,u]) || Yt f (.mk 3 READ 0 [x.b])):=by simp
    rw[c2,ZV]at q2;simp only[Q2]at c;rw[c,e1]at p2;rw[e1]at h7;rw[e2]at h8;have eu:=Qg u;have q3: ∀o,call F.tb 120 [.str [111,112,101,110],.sl o 4 [Qa x.b,Qa u]] bs=some (.agg (Qa (.mk 3 QV 0 [x.b,u])),bs):=fun o=>Y4 QV [x.b,u] o bs (by simp);have q4: ∀o,call F.tb 120 [.str [114,101,97,100],.sl o 4 [Qa x.b]] bs=some (.agg (Qa (.mk 3 READ 0 [x.b])),bs):=fun o=>Y4 READ [x.b] o bs (by simp);simp only[e3,ez,e2,eu,encTs]at q1 q2 q3 q4 l1 l2;simp only[ez]at p2 h7;rw[em,eA];generalize Yt f (.mk 3 QV 0 [x.b,u])=b1 at *;generalize Yt f (.mk 3 READ 0 [x.b])=b2 at *;cases b1 <;> cases b2 <;> simp[AC.sndS,F.f457C,h1,h3,h7,h8,p2,q1,q2,q3,q4,l1,l2]
 have key:=key true (fun y hy=>hmm y (List.mem_append_right _ hy));have ec: ∀(A:List Tm),(Vf l x ++ XP l x).any (Yt f)=((Vf l x).any (Yt f) || (XP l x).any (Yt f)):=fun _=>List.any_append;rw[ec []];have es:F.f457C.sndS.sndS= .seq F.f457C.sndS.sndS.fstS F.f457C.sndS.sndS.sndS:=rfl;have es2:F.f457C= .seq F.f457C.fstS (.seq F.f457C.sndS.fstS (.seq F.f457C.sndS.sndS.fstS F.f457C.sndS.sndS.sndS)):=rfl
 show R F.tb F.f457C _ _ _=_;rw[es2];generalize F.f457C.sndS.sndS.sndS=C at key ⊢;generalize (XP l x).any (Yt f)=V at *;cases c:Xt l x.t with
 | none=>
  have em:Vf l x=[]:=by simp[Vf,c]
  rw[c,Yf,e1]at hp;rw[em];simp[-getElem?_pos,Ya,AC.fstS,AC.sndS,F.f457C,hgt,hp,Qq];apply key <;> simp[e1,e2,hte]
 | some u=>
  have em:Vf l x=[u]:=by simp[Vf,c]
  have l1:=hls u (hmm u (by rw[em];simp));have eu:=Qg u;rw[c,ZV,e1,eu]at hp;rw[eu]at l1;rw[em];have eA: ([u].any (Yt f))=Yt f u:=by simp
  rw[eA];generalize Yt f u=b1 at *;cases b1
  ·simp[-getElem?_pos,Ya,AC.fstS,AC.sndS,F.f457C,hgt,hp,l1,Qq];apply key <;> simp[e1,e2,hte]
  ·simp[-getElem?_pos,Ya,AC.fstS,AC.sndS,F.f457C,hgt,hp,l1,Qq]
end Go.Am
