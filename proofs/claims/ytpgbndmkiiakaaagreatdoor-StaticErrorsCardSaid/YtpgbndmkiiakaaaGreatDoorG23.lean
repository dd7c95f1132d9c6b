/-
  Sc6, Sc7, Sc8, Sc9, Sc10, Sc11, Sc12.
-/
import Derived.Test.YtpgbndmkiiakaaaGreatDoorG21
set_option linter.unusedVariables false
set_option linter.unusedSimpArgs false
namespace Go.Am
set_option maxRecDepth 8000
def T1 (l:List (List UInt8)):List (List AV):=l.map fun s=>[AV.str s]
theorem Qdh (l:List (List UInt8)): (T1 l).length=l.length:=by simp[T1]
theorem Qdg {l:List (List UInt8)} {i:Nat} {s:List UInt8} (h:l[i]? =some s): (T1 l)[i]? =some [AV.str s]:=by simp[T1,h]
theorem Qf0 (l:List (List UInt8)) (x:List UInt8) (bs:List (List AV)) (hl:l.length < 1000000):
  ∀(post pre:List (List UInt8)) (o:Bool) (ρ:Nat→AV),l=pre ++ post→pre.contains x=false→ρ 0= .sl o 1 (T1 l)→ρ 1= .str x→ρ 7= .int .i64 l.length→ρ 8= .int .i64 pre.length→
  TR (l.contains x) bs (R F.tb (.loop F.f162l0) ρ bs (Ql 0 (Qr F.tb F.f162r0 (Qt F.f162 bs)))):=by
 intro post
 induction post with
 | nil=>
  intro pre o ρ hk hpp h0 h1 h7 h8;simp only[List.append_nil]at hk;rw[← hk]at h8 hpp;rw[Qc F.f162l0.eq_1];refine⟨-1,?_,by rw[hpp];simp⟩;simp[h0,h1,h7,h8,F.f162r0]
 | cons a post IH=>
  intro pre o ρ hk hpp h0 h1 h7 h8;have hgt:=Qdg (Qp hk);have hll:=Qx hk;have hw1:=wr1 pre.length (by omega);have hlt:=Qy hk;have ih:=fun ρ hpp=>IH (pre ++ [a]) o ρ (by rw[hk];simp) hpp;rw[Qc F.f162l0.eq_1];by_cases ho:x=a
  ·have hany:l.contains x=true:=by rw[hk,ho];simp
   refine⟨pre.length,?_,by rw[hany];simp⟩;simp[h0,h1,h7,h8,hlt,hgt,← ho]
  ·have hb: (x == a)=false:=by simpa using ho
   have ih2:=fun ρ=>ih ρ (by simp only[List.contains_eq_mem,decide_eq_false_iff_not,List.mem_append,List.mem_singleton]at hpp ⊢;exact fun h=>h.elim hpp ho);simp[h0,h1,h7,h8,hlt,hgt,hw1,hb,-List.contains_eq_mem];apply ih2 <;> simp[h0,h1,h7]
theorem Qfc (l:List (List UInt8)) (x:List UInt8) (o:Bool) (bs:List (List AV)) (hl:l.length < 1000000):call F.tb 161 [.sl o 1 (T1 l),.str x] bs=some (.bool (l.contains x),bs):=by
 have h1:=fun ρ=>Qf0 l x bs hl l [] false ρ rfl rfl;have h2:TR (l.contains x) bs (call F.tb 162 [.sl false 1 (T1 l),.str x] bs):=by
  rw[Qb F.tb_162 _ _ rfl];simp[F.f162C,-List.contains_eq_mem];apply h1 <;> simp[Qdh]
 obtain⟨i,hi,hb⟩:=h2;rw[Qb F.tb_161 _ _ rfl];simp[F.f161C,hi,-List.contains_eq_mem];cases hx:l.contains x
 ·rw[hx]at hb;simp at hb;simpa using hb
 ·rw[hx]at hb;simp at hb;simpa using hb
def isN (t:Tm) (l:List (List UInt8)):Bool:=decide (t.kind=3) && l.contains t.name
theorem Ln (t:Tm) (l:List (List UInt8)) (o:Bool) (bs:List (List AV)) (hl:l.length < 1000000):call F.tb 416 [.agg (Qa t),.sl o 1 (T1 l)] bs=some (.bool (isN t l),bs):=by
 have h:=Qfc l t.name false bs hl;rw[Qb F.tb_416 _ _ rfl];unfold isN;by_cases hk:t.kind=3 <;> simp[F.f416C,hk,h,-List.contains_eq_mem]
theorem BX (t:Tm) (n:List UInt8):isN t [n]=isB t n:=by
 unfold isN isB;congr 1;simp only[List.contains_cons,List.contains_nil,Bool.or_false]
theorem ST (n:List UInt8) (ks:List Tm) (o:Bool) (bs:List (List AV)):call F.tb 417 [.str n,.sl o 4 (encTs ks)] bs=some (.agg (Qa (.mk 3 n 0 ks)),bs):=by
 rw[Qb F.tb_417 _ _ rfl];simp[F.f417C,Qa]
structure Rp where
 t:Tm
 b:Tm
def QZ (x:Rp):List AV:=[.int .i64 x.t.kind,.str x.t.name,.int .i64 x.t.sort,.sl false 4 (encTs x.t.kids),.int .i64 x.b.kind,.str x.b.name,.int .i64 x.b.sort,.sl false 4 (encTs x.b.kids)]
def QB (l:List Rp):List (List AV):=l.map QZ
theorem QX (l:List Rp): (QB l).length=l.length:=by simp[QB]
theorem YV {l:List Rp} {i:Nat} {x:Rp} (h:l[i]? =some x): (QB l)[i]? =some (QZ x):=by simp[QB,h]
theorem K4 (a b:List Rp):QB a ++ QB b=QB (a ++ b):=by simp[QB]
theorem Ms: ∀l:List Rp,gpfreeE (QB l)=true
 | []=>rfl
 | x:: l=>by
  have:=Ms l;unfold QB at this;simp[QB,gpfreeE,QZ,this]
def XE (l:List Rp) (t:Tm):Option Tm:=(l.find? fun x=>decide (Qm x.t t=0)).map Rp.b
def ixR (t:Tm):Nat→List Rp→Int
 | _,[]=> -1
 | k,x:: l=>if Qm x.t t=0 then k else ixR t (k+1) l
theorem ES (t:Tm): ∀(l:List Rp) (k:Nat),(ixR t k l= -1∧XE l t=none)∨∃i x,ixR t k l=(k:Int)+ (i:Nat)∧l[i]? =some x∧XE l t=some x.b
 | [],k=> .inl ⟨rfl,rfl⟩
 | x:: l,k=>by
  by_cases h:Qm x.t t=0
  ·exact .inr ⟨0,x,by simp[ixR,h],by simp,by simp[XE,h]⟩
  ·rcases ES t l (k+1)with⟨h1,h2⟩ | ⟨i,y,h1,h2,h3⟩
   ·exact .inl ⟨by simp[ixR,h,h1],by simp only[XE,List.find?_cons,h,decide_false];exact h2⟩
   ·refine .inr ⟨i+1,y,?_,by simpa using h2,by simp only[XE,List.find?_cons,h,decide_false];exact h3⟩;simp only[ixR,h,if_false,h1];omega
theorem QiU (t:Tm) (x:Rp) (pos:Nat) (bs:List (List AV)) (hp:bs[pos]? =some (Qa t)) (ht:t.mass < big) (hx:x.t.mass < big):call F.tb 420 [.agg (QZ x),.gp pos 0] bs=some (.bool (decide (Qm x.t t=0)),bs):=by
 have h:=OT x.t t bs hx ht;have e1:=Qg x.t;rw[e1]at h;rw[Qb F.tb_420 _ _ rfl];simp[F.f420C,QZ,hp,h]
theorem QfZ (l:List Rp) (t:Tm) (pos:Nat) (bs:List (List AV)) (hp:bs[pos]? =some (Qa t)) (ht:t.mass < big) (hl:l.length < 1000000) (hm: ∀x∈l,x.t.mass < big):
  ∀(post pre:List Rp) (o:Bool) (ρ:Nat→AV),l=pre ++ post→ρ 0= .sl o 8 (QB l)→ρ 1= .fn 420 [.gp pos 0]→ρ 7= .int .i64 l.length→ρ 8= .int .i64 pre.length→
  R F.tb (.loop F.f421l0) ρ bs (Ql 0 (Qr F.tb F.f421r0 (Qt F.f421 bs)))=some (.int .i64 (ixR t pre.length post),bs):=by
 intro post
 induction post with
 | nil=>
  intro pre o ρ hk h0 h1 h7 h8;simp only[List.append_nil]at hk;rw[← hk]at h8;rw[Qc F.f421l0.eq_1];simp[h0,h1,h7,h8,F.f421r0,ixR]
 | cons x post IH=>
  intro pre o ρ hk h0 h1 h7 h8;have hgt:=YV (Qp hk);have hll:=Qx hk;have hw1:=wr1 pre.length (by omega);have hlt:=Qy hk;have hcall:=QiU t x pos bs hp ht (hm x (by rw[hk];simp));have ih:=fun ρ=>IH (pre ++ [x]) o ρ (by rw[hk];simp);rw[List.length_append,List.length_singleton]at ih;have es: (QZ x).map AV.strip=QZ x:=rfl;have el: (QZ x).length=8:=rfl;have et: (QZ x).take 8=QZ x:=rfl;rw[Qc F.f421l0.eq_1];by_cases ho:Qm x.t t=0
  ·simp[h0,h1,h7,h8,hlt,hgt,es,el,et,hcall,ho,ixR]
  ·simp[h0,h1,h7,h8,hlt,hgt,hw1,es,el,et,hcall,ho,ixR];apply ih <;> simp[h0,h1,h7]
theorem QiV (l:List Rp) (t:Tm) (pos:Nat) (o:Bool) (bs:List (List AV)) (hp:bs[pos]? =some (Qa t)) (ht:t.mass < big) (hl:l.length < 1000000) (hm: ∀x∈l,x.t.mass < big):
  call F.tb 421 [.sl o 8 (QB l),.fn 420 [.gp pos 0]] bs=some (.int .i64 (ixR t 0 l),bs):=by
 have h:=fun ρ=>QfZ l t pos bs hp ht hl hm l [] false ρ rfl;rw[Qb F.tb_421 _ _ rfl];simp[F.f421C];apply h <;> simp[QX]
def RX:List UInt8:=[104,97,115,104]
def V4:List (List UInt8):=[Ze,ENC,Zb,PK,Q2,RX]
mutual
def ofT (l:List Rp):Tm→Option Tm
 | .mk k n s ks=>match XE l (.mk k n s ks)with
  | some b=>some b
  | none=>if ZK (.mk k n s ks)then some (.mk k n s ks)else if isN (.mk k n s ks) V4 then(ofL l ks).map fun us=> .mk 3 n 0 us else none
def ofL (l:List Rp):List Tm→Option (List Tm)
 | []=>some []
 | t:: ts=>match ofT l t,ofL l ts with
  | some u,some us=>some (u:: us)
  | _,_=>none
end
def Xt (l:List Rp) (t:Tm):Option Tm:=if isN t V4 then(ofL l t.kids).map fun us=> .mk 3 t.name 0 us else none
theorem MS (l:List Rp) (t:Tm):ofT l t=match XE l t with
  | some b=>some b
  | none=>if ZK t then some t else Xt l t:=by
 cases t;simp only[ofT,Xt];rfl
theorem Rl (l:List Rp) (t:Tm) (ts:List Tm):ofL l (t:: ts)=match ofT l t with
  | none=>none
  | some u=>(ofL l ts).map (u:: ·):=by
 simp only[ofL];cases ofT l t <;> cases ofL l ts <;> rfl
def Vb (r:Option Tm):AV:= .tup [.agg (Qa (r.getD Qw)),.bool r.isSome]
theorem QdA {l:List Rp} {t b:Tm} {M:Nat} (hl: ∀x∈l,x.t.mass < M∧x.b.mass < M) (h:XE l t=some b):b.mass < M:=by
 unfold XE at h;cases hf:l.find? fun x=>decide (Qm x.t t=0)with
 | none=>rw[hf]at h;cases h
 | some x=>rw[hf]at h;simp at h;subst h;exact(hl x (List.mem_of_find?_eq_some hf)).2
mutual
theorem Kt {l:List Rp} {M:Nat} (hl: ∀x∈l,x.t.mass < M∧x.b.mass < M): ∀{t u:Tm},ofT l t=some u→u.mass≤t.mass+M*t.nodes
 | .mk k n s ks,u,h=>by
  rw[MS]at h;have hn:1≤(Tm.mk k n s ks).nodes:=by simp only[Tm.nodes];omega
  have hM:M≤M* (Tm.mk k n s ks).nodes:=Nat.le_mul_of_pos_right _ hn;cases hf:XE l (.mk k n s ks)with
  | some b=>rw[hf]at h;injection h with h;subst h;have:=QdA hl hf;omega
  | none=>
   rw[hf]at h;simp only at h;split at h
   ·injection h with h;subst h;omega
   ·unfold Xt at h;split at h
    ·simp only[QN,Q5]at h;cases ho:ofL l ks with
     | none=>rw[ho]at h;cases h
     | some us=>
      rw[ho]at h;simp only[Option.map_some,Option.some.injEq]at h;subst h;have h1:=ofL_mass hl ho;have h2:=ofL_len ho;have e1:=Qo (.mk 3 n 0 us);have e2:=Qo (.mk k n s ks);simp only[QN,Q5]at e1 e2;have e3:M* (Tm.mk k n s ks).nodes=M+M*nodesL ks:=by simp only[Tm.nodes];rw[Nat.mul_add];omega
      omega
    ·cases h
theorem ofL_mass {l:List Rp} {M:Nat} (hl: ∀x∈l,x.t.mass < M∧x.b.mass < M): ∀{ts us:List Tm},ofL l ts=some us→massL us≤massL ts+M*nodesL ts
 | [],us,h=>by simp[ofL]at h;subst h;simp[massL]
 | t:: ts,us,h=>by
  rw[Rl]at h;cases h1:ofT l t with
  | none=>rw[h1]at h;cases h
  | some u=>
   rw[h1]at h;cases h2:ofL l ts with
   | none=>rw[h2]at h;cases h
   | some vs=>
    rw[h2]at h;injection h with h;subst h
    have a1:=Kt hl h1;have a2:=ofL_mass hl h2;simp only[massL,nodesL];rw[Nat.mul_add];omega
theorem ofL_len {l:List Rp}: ∀{ts us:List Tm},ofL l ts=some us→us.length=ts.length
 | [],us,h=>by simp[ofL]at h;subst h;rfl
 | t:: ts,us,h=>by
  rw[Rl]at h;cases h1:ofT l t with
  | none=>rw[h1]at h;cases h
  | some u=>
   rw[h1]at h;cases h2:ofL l ts with
   | none=>rw[h2]at h;cases h
   | some vs=>rw[h2]at h;injection h with h;subst h;simp[ofL_len h2]
end
theorem Yf:Vb none= .tup [.agg [.int .i64 0,.str [],.int .i64 0,.sl false 4 []],.bool false]:=by simp[Vb,Qw,Qa,encTs]
theorem ZV (t:Tm):Vb (some t)= .tup [.agg (Qa t),.bool true]:=rfl
def ROk (l:List Rp):Prop:=l.length < 1000000∧∀x∈l,x.t.mass < 1000000∧x.b.mass < 1000000
theorem B9 {l:List Rp} (h:ROk l): ∀x∈l,x.t.mass < big:=fun x hx=>by have:=(h.2 x hx).1;unfold big;omega
theorem AQ (l:List Rp) (t:Tm) (bs:List (List AV)) (ht:t.mass < 1000000) (ih: ∀x∈t.kids,∀(o:Bool) (bs:List (List AV)),call F.tb 419 [.sl o 8 (QB l),.agg (Qa x)] bs=some (Vb (ofT l x),bs)):
  ∀(post pre us:List Tm) (o:Bool) (ρ:Nat→AV),t.kids=pre ++ post→us.length=pre.length→ρ 0= .sl o 8 (QB l)→ρ 3= .bx (Qa t)→ρ 4= .bx [.int .i64 0,.str [],.int .i64 0,.sl true 4 []]→
   ρ 6= .sl true 4 (encTs us)→ρ 17= .sl false 4 (encTs t.kids)→ρ 18= .int .i64 t.kids.length→ρ 19= .int .i64 pre.length→
  R F.tb (.loop F.f422l0) ρ bs (Ql 0 (Qr F.tb F.f422r0 (Qt F.f422 bs)))=some (Vb ((ofL l post).map fun vs=> .mk 3 t.name 0 (us ++ vs)),bs):=by
 have hme:=Qo t;intro post
 induction post with
 | nil=>
  intro pre us o ρ hk hl h0 h3 h4 h6 h17 h18 h19;simp only[List.append_nil]at hk;rw[← hk]at h19;have hc:=ST t.name us false bs;rw[Qc F.f422l0.eq_1];simp[h0,h3,h4,h6,h17,h18,h19,F.f422r0,ofL,hc,ZV]
 | cons x post IH=>
  intro pre us o ρ hk hl h0 h3 h4 h6 h17 h18 h19;have hg:=Qp hk;have hll:=Qx hk;have hw1:=wr1 pre.length (by omega);have hlt:=Qy hk;have hc:=ih x (by rw[hk];simp) false bs;have hb: (us.length+1)*56≤140737488355328:=Yi (by omega);rw[Qc F.f422l0.eq_1,Rl];cases hx:ofT l x with
  | none=>
   rw[hx,Yf]at hc;simp[h0,h3,h4,h6,h17,h18,h19,hg,hlt,hc,Yf]
  | some u=>
   rw[hx,ZV]at hc;have hi:=fun ρ=>IH (pre ++ [x]) (us ++ [u]) o ρ (by rw[hk];simp) (by simp[hl]);have e: ((ofL l post).map (u:: ·)).map (fun vs=>Tm.mk 3 t.name 0 (us ++ vs))=(ofL l post).map fun vs=>Tm.mk 3 t.name 0 (us ++ [u]++ vs):=by cases ofL l post <;> simp
   simp only[e];simp[h0,h3,h4,h6,h17,h18,h19,hg,hlt,hw1,hc,hb,Q7,QP,-List.append_assoc,-Option.map_map];apply hi <;> simp[h0,h3,h4,h17,h18]
theorem KU (l:List Rp) (t:Tm) (ht:t.mass < 1000000) (ih: ∀x∈t.kids,∀(o:Bool) (bs:List (List AV)),call F.tb 419 [.sl o 8 (QB l),.agg (Qa x)] bs=some (Vb (ofT l x),bs)) (o:Bool) (bs:List (List AV)):
  call F.tb 422 [.sl o 8 (QB l),.agg (Qa t)] bs=some (Vb (Xt l t),bs):=by
 have h1:=Ln t V4 false bs (by decide);have h2:=fun ρ=>AQ l t bs ht ih t.kids [] [] false ρ rfl rfl;have e0:T1 V4=[[.str Ze],[.str ENC],[.str Zb],[.str PK],[.str Q2],[.str RX]]:=rfl;rw[e0]at h1;simp only[Ze,ENC,Zb,PK,Q2,RX]at h1;have h1': ∀o,call F.tb 416 [.agg (Qa t),.sl o 1 [[.str [112,97,105,114]],[.str [101,110,99]],[.str [97,101,110,99]],[.str [112,107]],[.str [115,105,103,110]],[.str [104,97,115,104]]]] bs=some (.bool (isN t V4),bs):=fun o=>by
  have:=Ln t V4 o bs (by decide);rw[e0]at this;simpa only[Ze,ENC,Zb,PK,Q2,RX]using this
 rw[Qb F.tb_422 _ _ rfl];unfold Xt;cases hc:isN t V4
 ·rw[hc]at h1';simp[F.f422C,h1',Yf]
 ·rw[hc]at h1';simp[F.f422C,h1'];simp only[List.nil_append]at h2;apply h2 <;> simp[encTs]
theorem Ir (l:List Rp) (hl:ROk l): ∀(t:Tm) (o:Bool) (bs:List (List AV)),t.mass < 1000000→call F.tb 419 [.sl o 8 (QB l),.agg (Qa t)] bs=some (Vb (ofT l t),bs):=by
 refine Zp (P:=fun t=>∀(o:Bool) (bs:List (List AV)),t.mass < 1000000→call F.tb 419 [.sl o 8 (QB l),.agg (Qa t)] bs=some (Vb (ofT l t),bs)) ?_;intro k n s ks ih o bs hm;have hme:=Qo (.mk k n s ks);simp only[QN,Q5]at hme;have h3:=KU l (.mk k n s ks) hm (fun x hx o bs=>ih x hx o bs (by have h1:x.mass≤massL ks:=QD hx;omega)) false (bs ++ [Qa (.mk k n s ks)]);generalize ht:Tm.mk k n s ks=t at *;have h1:=QiV l t bs.length false (bs ++ [Qa t]) (by simp) (by unfold big;omega) hl.1 (B9 hl);have h2:=OR t (bs ++ [Qa t]) hm;have hgp: ∀r:Option Tm,(r.getD Qw).kind=(r.getD Qw).kind:=fun _=>rfl;rw[Qb F.tb_419 _ _ rfl,MS];rcases ES t l 0 with⟨a1,a2⟩ | ⟨i,x,a1,a2,a3⟩
 ·rw[a1]at h1;rw[a2];cases c1:ZK t
  ·rw[c1]at h2;cases c2:Xt l t with
   | none=>
    rw[c2,Yf]at h3;simp[F.f419C,h1,h2,h3,Yf]
   | some u=>
    rw[c2,ZV]at h3;simp[F.f419C,h1,h2,h3,ZV]
  ·rw[c1]at h2;simp[F.f419C,h1,h2,ZV]
 ·rw[a1]at h1;rw[a3];have hg:=YV a2;have hlt:=(List.getElem?_eq_some_iff.1 a2).1;have h0: (0:Int)≤(i:Int):=by omega
  have e1:=Qg x.b;have ed: ∀y:Rp,(QZ y).drop 4=Qa y.b:=fun y=>by simp[QZ,Qg]
  simp[-getElem?_pos,F.f419C,h1,hg,h0,ed,ZV]
theorem QiW (l:List Rp) (hl:ROk l) (t:Tm) (ht:t.mass < 1000000) (o:Bool) (bs:List (List AV)):call F.tb 422 [.sl o 8 (QB l),.agg (Qa t)] bs=some (Vb (Xt l t),bs):=
 KU l t ht (fun x hx o bs=>Ir l hl x o bs (by have h1:=QD hx;have:=Qo t;omega)) o bs
theorem Qja (t:Tm) (bs:List (List AV)):call F.tb 454 [.agg (Qa t)] bs=some (.bool (isN t V4),bs):=by
 rw[Qb F.tb_454 _ _ rfl];unfold isN;have e:V4.contains t.name=(t.name == Ze || t.name == ENC || t.name == Zb || t.name == PK || t.name == Q2 || t.name == RX):=by simp only[V4,List.contains_cons,List.contains_nil,Bool.or_false,Bool.or_assoc]
 rw[e];by_cases hk:t.kind=3
 ·by_cases c1:t.name=Ze
  ·simp only[Ze]at c1;simp[F.f454C,hk,c1,Ze]
  by_cases c2:t.name=ENC
  ·simp only[Ze,ENC]at c1 c2;simp[F.f454C,hk,c2,Ze,ENC]
  by_cases c3:t.name=Zb
  ·simp only[Ze,ENC,Zb]at c1 c2 c3;simp[F.f454C,hk,c3,Ze,ENC,Zb]
  by_cases c4:t.name=PK
  ·simp only[PK]at c4;simp[F.f454C,hk,c4,Ze,ENC,Zb,PK]
  by_cases c5:t.name=Q2
  ·simp only[Q2]at c5;simp[F.f454C,hk,c5,Ze,ENC,Zb,PK,Q2]
  by_cases c6:t.name=RX
  ·simp only[RX]at c6;simp[F.f454C,hk,c6,Ze,ENC,Zb,PK,Q2,RX]
  simp only[Ze,ENC,Zb,PK,Q2,RX]at c1 c2 c3 c4 c5 c6;simp[F.f454C,hk,c1,c2,c3,c4,c5,c6,Ze,ENC,Zb,PK,Q2,RX,Bool.or_assoc]
 ·simp[F.f454C,hk]
theorem FW (l:List Rp) (t:Tm) (bs:List (List AV)) (ht:t.mass < 1000000) (ih: ∀x∈t.kids,∀(o:Bool) (bs:List (List AV)),call F.tb 452 [.sl o 8 (QB l),.agg (Qa x)] bs=some (Vb (ofT l x),bs)):
  ∀(post pre us:List Tm) (o:Bool) (ρ:Nat→AV),t.kids=pre ++ post→us.length=pre.length→ρ 0= .sl o 8 (QB l)→ρ 3= .bx (Qa t)→ρ 4= .bx [.int .i64 0,.str [],.int .i64 0,.sl true 4 []]→
   ρ 6= .sl true 4 (encTs us)→ρ 7= .int .i64 pre.length→
  R F.tb (.loop F.f453l0) ρ bs (Ql 0 (Qr F.tb F.f453r0 (Qt F.f453 bs)))=some (Vb ((ofL l post).map fun vs=> .mk 3 t.name 0 (us ++ vs)),bs):=by
 have hme:=Qo t;intro post
 induction post with
 | nil=>
  intro pre us o ρ hk hl h0 h3 h4 h6 h7;simp only[List.append_nil]at hk;rw[← hk]at h7 hl;have hc:=Y4 t.name us false bs (by omega);rw[Qc F.f453l0.eq_1];simp[h0,h3,h4,h6,h7,F.f453r0,ofL,hc,ZV]
 | cons x post IH=>
  intro pre us o ρ hk hl h0 h3 h4 h6 h7;have hg:=Qp hk;have hll:=Qx hk;have hw1:=wr1 pre.length (by omega);have hlt:=Qy hk;have hc:=ih x (by rw[hk];simp) false bs;have hb: (us.length+1)*56≤140737488355328:=Yi (by omega);rw[Qc F.f453l0.eq_1,Rl];cases hx:ofT l x with
  | none=>
   rw[hx,Yf]at hc;simp[h0,h3,h4,h6,h7,hg,hlt,hc,Yf]
  | some u=>
   rw[hx,ZV]at hc;have hi:=fun ρ=>IH (pre ++ [x]) (us ++ [u]) o ρ (by rw[hk];simp) (by simp[hl]);have e: ((ofL l post).map (u:: ·)).map (fun vs=>Tm.mk 3 t.name 0 (us ++ vs))=(ofL l post).map fun vs=>Tm.mk 3 t.name 0 (us ++ [u]++ vs):=by cases ofL l post <;> simp
   simp only[e];simp[h0,h3,h4,h6,h7,hg,hlt,hw1,hc,hb,Q7,QP,-List.append_assoc,-Option.map_map];apply hi <;> simp[h0,h3,h4]
theorem KV (l:List Rp) (t:Tm) (ht:t.mass < 1000000) (ih: ∀x∈t.kids,∀(o:Bool) (bs:List (List AV)),call F.tb 452 [.sl o 8 (QB l),.agg (Qa x)] bs=some (Vb (ofT l x),bs)) (o:Bool) (bs:List (List AV)):
  call F.tb 453 [.sl o 8 (QB l),.agg (Qa t)] bs=some (Vb (Xt l t),bs):=by
 have h1:=Qja t bs;have h2:=fun ρ=>FW l t bs ht ih t.kids [] [] false ρ rfl rfl;rw[Qb F.tb_453 _ _ rfl];unfold Xt;cases hc:isN t V4
 ·rw[hc]at h1;simp[F.f453C,h1,Yf]
 ·rw[hc]at h1;simp[F.f453C,h1];simp only[List.nil_append]at h2;apply h2 <;> simp[encTs]
theorem Ao (l:List Rp) (hl:ROk l) (t:Tm) (ht:t.mass < 1000000) (bs:List (List AV)) (h3:call F.tb 453 [.sl false 8 (QB l),.agg (Qa t)] bs=some (Vb (Xt l t),bs)):
  ∀(post pre:List Rp) (o:Bool) (ρ:Nat→AV),l=pre ++ post→ρ 0= .sl o 8 (QB l)→ρ 3= .bx (Qa t)→ρ 4= .bx [.int .i64 0,.str [],.int .i64 0,.sl true 4 []]→ρ 6= .int .i64 pre.length→
  R F.tb (.loop F.f452l0) ρ bs (Ql 0 (Qr F.tb F.f452r0 (Qt F.f452 bs)))=some (Vb (match XE post t with
   | some b=>some b
   | none=>if ZK t then some t else Xt l t),bs):=by
 have h2:=OS t bs ht;intro post
 induction post with
 | nil=>
  intro pre o ρ hk h0 hb3 h4 h6;simp only[List.append_nil]at hk;rw[← hk]at h6;have hf:XE [] t=none:=rfl;rw[Qc F.f452l0.eq_1,hf];cases c1:ZK t
  ·rw[c1]at h2;cases c2:Xt l t with
   | none=>
    rw[c2,Yf]at h3;simp[h0,hb3,h4,h6,QX,h2,h3,F.f452r0,Yf]
   | some u=>
    rw[c2,ZV]at h3;simp[h0,hb3,h4,h6,QX,h2,h3,F.f452r0,ZV]
  ·rw[c1]at h2;simp[h0,hb3,h4,h6,QX,h2,F.f452r0,ZV]
 | cons x post IH=>
  intro pre o ρ hk h0 hb3 h4 h6;have hg:=YV (Qp hk);have hll:=Qx hk;have hlb:=hl.1;have hw1:=wr1 pre.length (by omega);have hlt:=Qy hk;have hc:=Xa x.t t bs (B9 hl x (by rw[hk];simp)) (by unfold big;omega);have ih:=fun ρ=>IH (pre ++ [x]) o ρ (by rw[hk];simp);have ed: ∀y:Rp,(QZ y).drop 4=Qa y.b:=fun y=>by simp[QZ,Qg]
  have et: ∀y:Rp,(QZ y).take 4=Qa y.t:=fun y=>by simp[QZ,Qg]
  have el: ∀y:Rp,(QZ y).length=8:=fun y=>rfl;rw[Qc F.f452l0.eq_1];by_cases c:Qm x.t t=0
  ·have hf:XE (x:: post) t=some x.b:=by simp[XE,c]
   rw[hf];simp[-getElem?_pos,h0,hb3,h4,h6,QX,hlt,hg,hc,c,ed,et,el,ZV]
  ·have hf:XE (x:: post) t=XE post t:=by simp[XE,c]
   rw[hf];simp[-getElem?_pos,h0,hb3,h4,h6,QX,hlt,hg,hc,c,ed,et,el,hw1];apply ih <;> simp[h0,hb3,h4]
theorem Lo (l:List Rp) (hl:ROk l): ∀(t:Tm) (o:Bool) (bs:List (List AV)),t.mass < 1000000→call F.tb 452 [.sl o 8 (QB l),.agg (Qa t)] bs=some (Vb (ofT l t),bs):=by
 refine Zp (P:=fun t=>∀(o:Bool) (bs:List (List AV)),t.mass < 1000000→call F.tb 452 [.sl o 8 (QB l),.agg (Qa t)] bs=some (Vb (ofT l t),bs)) ?_;intro k n s ks ih o bs hm;have hme:=Qo (.mk k n s ks);simp only[QN,Q5]at hme;have h3:=KV l (.mk k n s ks) hm (fun x hx o bs=>ih x hx o bs (by have h1:x.mass≤massL ks:=QD hx;omega)) false bs;generalize ht:Tm.mk k n s ks=t at *;have h:=fun ρ=>Ao l hl t hm bs h3 l [] false ρ rfl;rw[Qb F.tb_452 _ _ rfl,MS];simp[F.f452C];apply h <;> simp
theorem Bt (l:List Rp) (hl:ROk l) (t:Tm) (ht:t.mass < 1000000) (o:Bool) (bs:List (List AV)):call F.tb 453 [.sl o 8 (QB l),.agg (Qa t)] bs=some (Vb (Xt l t),bs):=
 KV l t ht (fun x hx o bs=>Lo l hl x o bs (by have h1:=QD hx;have:=Qo t;omega)) o bs
theorem Ki {t:Tm} {n:List UInt8} (h:Q1 t=true) (hb:isB t n=true) (hn:Q8 n t.kids.length=decide (t.kids.length=1)): ∃x,t.kids=[x]:=by
 obtain⟨hk,rfl⟩:=Ti.1 hb;have:=(XN h hk).2;rw[hn]at this;exact List.length_eq_one_iff.1 (by simpa using this)
theorem DR (t:Tm) (bs:List (List AV)) (hm:t.mass < big):call F.tb 46 [.agg (Qa t)] bs=some (.agg (Qa t),bs):=by
 rw[Qb F.tb_46 _ _ rfl];simp[F.f46,F.f46C,F4 t bs hm]
def ZN (t:Tm):Tm×Int:=
 if thV t≠0 then(Qw,thV t)else if isB t ENC then(kid t 1,0)else if !isB t Zb then(Qw,10)else if !isB (kid t 1) PK then(Qw,4)else(kid (kid t 1) 0,0)
theorem QiT (t:Tm) (bs:List (List AV)) (hm:t.mass < big):call F.tb 418 [.agg (Qa t)] bs=some (QS (ZN t),bs):=by
 have h0:=VD t bs hm;have h1:=fun t n=>Rz t n bs;have h3:=fun t hm=>DR t bs hm;rw[Qb F.tb_418 _ _ rfl];by_cases c0:thV t=0
 ·obtain⟨_,_,hg,hma,hno⟩:=Zj c0;have h2:=h1 t ENC;have h4:=h1 t Zb;simp only[ENC]at h2;simp only[Zb]at h4;cases c1:isB t ENC
  ·simp only[ENC]at c1;cases c2:isB t Zb
   ·have e:ZN t=(Qw,10):=by simp[ZN,c0,c2,ENC,c1]
    simp only[Zb]at c2;rw[e];simp[F.f418C,h0,c0,h2,c1,h4,c2,QM,QE]
   ·obtain⟨x,y,hk⟩:=Q3 hg c2 (by simp[Q8]);have ey:kid t 1=y:=by simp[kid,hk]
    have h5:=h1 y PK;simp only[PK]at h5;cases c3:isB y PK
    ·have e:ZN t=(Qw,4):=by simp[ZN,c0,c2,ENC,c1,ey,c3]
     simp only[Zb]at c2;simp only[PK]at c3;rw[e];simp[F.f418C,h0,c0,h2,c1,h4,c2,hk,h5,c3,QM,QE]
    ·have hgy:Q1 y=true:=by
      have:=Xh hg;rw[hk]at this;simp[goodL]at this;exact this.2
     obtain⟨z,hz⟩:=Ki hgy c3 (by simp[Q8,PK,Ze,ENC,Zb,Q2,EXP,DEC,Q6,QV]);have ez:kid y 0=z:=by simp[kid,hz]
     have e:ZN t=(z,0):=by simp[ZN,c0,c2,ENC,c1,ey,c3,ez]
     have hmt:=Qo t;have hmy:=Qo y;rw[hk]at hmt;rw[hz]at hmy;simp only[massL]at hmt hmy;have h6:=h3 z (by unfold big;omega);have ey:=Qg y;rw[hz]at ey;simp only[encTs]at ey;rw[ey]at h5;simp only[Zb]at c2;simp only[PK]at c3;rw[e];simp[F.f418C,h0,c0,h2,c1,h4,c2,hk,h5,c3,h6,QM,ey,encTs]
  ·obtain⟨x,y,hk⟩:=Q3 hg c1 (by simp[Q8]);have e:ZN t=(y,0):=by simp[ZN,c0,c1,kid,hk]
   have hmt:=Qo t;rw[hk]at hmt;simp only[massL]at hmt;have h6:=h3 y (by unfold big;omega);simp only[ENC]at c1;rw[e];simp[F.f418C,h0,c0,h2,c1,hk,h6,QM]
 ·have e:ZN t=(Qw,thV t):=by simp[ZN,c0]
  rw[e];simp[F.f418C,h0,c0,QM,QE]
theorem QiJ (t:Tm) (bs:List (List AV)) (hm:t.mass < big):call F.tb 304 [.agg (Qa t)] bs=some (QS (ZN t),bs):=by
 have h0:=VC t bs hm;have h1:=fun t n=>Un t n bs;rw[Qb F.tb_304 _ _ rfl];by_cases c0:thV t=0
 ·obtain⟨_,_,hg,hma,hno⟩:=Zj c0;have h2:=h1 t ENC;have h4:=h1 t Zb;simp only[ENC]at h2;simp only[Zb]at h4;cases c1:isB t ENC
  ·simp only[ENC]at c1;cases c2:isB t Zb
   ·have e:ZN t=(Qw,10):=by simp[ZN,c0,c2,ENC,c1]
    simp only[Zb]at c2;rw[e];simp[F.f304C,h0,c0,h2,c1,h4,c2,QM,QE]
   ·obtain⟨x,y,hk⟩:=Q3 hg c2 (by simp[Q8]);have ey:kid t 1=y:=by simp[kid,hk]
    have h5:=h1 y PK;simp only[PK]at h5;cases c3:isB y PK
    ·have e:ZN t=(Qw,4):=by simp[ZN,c0,c2,ENC,c1,ey,c3]
     simp only[Zb]at c2;simp only[PK]at c3;rw[e];simp[F.f304C,h0,c0,h2,c1,h4,c2,hk,h5,c3,QM,QE]
    ·have hgy:Q1 y=true:=by
      have:=Xh hg;rw[hk]at this;simp[goodL]at this;exact this.2
     obtain⟨z,hz⟩:=Ki hgy c3 (by simp[Q8,PK,Ze,ENC,Zb,Q2,EXP,DEC,Q6,QV]);have ez:kid y 0=z:=by simp[kid,hz]
     have e:ZN t=(z,0):=by simp[ZN,c0,c2,ENC,c1,ey,c3,ez]
     have ey:=Qg y;rw[hz]at ey;simp only[encTs]at ey;rw[ey]at h5;simp only[Zb]at c2;simp only[PK]at c3;rw[e];simp[F.f304C,h0,c0,h2,c1,h4,c2,hk,h5,c3,QM,ey,encTs]
  ·obtain⟨x,y,hk⟩:=Q3 hg c1 (by simp[Q8]);have e:ZN t=(y,0):=by simp[ZN,c0,c1,kid,hk]
   simp only[ENC]at c1;rw[e];simp[F.f304C,h0,c0,h2,c1,hk,QM]
 ·have e:ZN t=(Qw,thV t):=by simp[ZN,c0]
  rw[e];simp[F.f304C,h0,c0,QM,QE]
def Yt (f:Fr) (r:Tm):Bool:=if QF r≠0 then true else decide ((Zf f r).2=3)
theorem Bm (f:Fr) (hf:FOk f) (hM:massL f.t < 1000000) (r:Tm) (hr:r.mass < big) (bs:List (List AV)):call F.tb 424 [.agg (Qj f),.agg (Qa r)] bs=some (.bool (Yt f r),bs):=by
 have h0:=XW r bs hr;have h1:call F.tb 425 [.agg (Qa r)] bs=some (.bool (decide (QF r≠0)),bs):=by
  rw[Qb F.tb_425 _ _ rfl];by_cases c:QF r=0 <;> simp[F.f425C,h0,c]
 have e1:=Qg r;rw[Qb F.tb_424 _ _ rfl];unfold Yt;by_cases c:QF r=0
 ·have h2:=Ij f hf hM r (by have:=(YX c).2.2;omega) bs;generalize Zf f r=V at *;obtain⟨v,e⟩:=V;have e2:=Qg v;simp only[QS,e2]at h2;by_cases c2:e=3 <;> simp[F.f424C,QA,Qq,QG,h1,h2,c,c2]
 ·simp[F.f424C,QA,Qq,QG,h1,c]
theorem Bu (f:Fr) (hf:FOk f) (hM:massL f.t < 1000000) (r:Tm) (hr:r.mass < big) (bs:List (List AV)):call F.tb 456 [.agg (Qj f),.agg (Qa r)] bs=some (.bool (!Yt f r),bs):=by
 have h0:=YQ r bs hr;have e1:=Qg r;rw[Qb F.tb_456 _ _ rfl];unfold Yt;by_cases c:QF r=0
 ·have h2:=Im f hf hM r (by have:=(YX c).2.2;omega) bs;generalize Zf f r=V at *;obtain⟨v,e⟩:=V;have e2:=Qg v;simp only[QS,e2]at h2;by_cases c2:e=3 <;> simp[F.f456C,QA,Qq,QG,h0,h2,c,c2]
 ·simp[F.f456C,QA,Qq,QG,h0,c]
def Zc (l:List Rp) (x:Rp):List Rp:=
 if isB x.t Ze then [⟨kid x.t 0,.mk 3 FST 0 [x.b]⟩,⟨kid x.t 1,.mk 3 SND 0 [x.b]⟩]
 else if isB x.t Q2 then [⟨kid x.t 0,.mk 3 READ 0 [x.b]⟩]
 else if(ZN x.t).2≠0 then []else match ofT l (ZN x.t).1 with
  | none=>[]
  | some b=>[⟨kid x.t 0,.mk 3 (if isB x.t Zb then Q6 else DEC) 0 [x.b,b]⟩]
theorem LB {t:Tm} (h: (ZN t).2=0):thV t=0∧(isB t ENC=true∨isB t Zb=true):=by
 unfold ZN at h;split at h
 ·rename_i c;exact absurd h c
 ·rename_i c;refine⟨by simpa using c,?_⟩;split at h
  ·rename_i c;exact .inl c
  ·split at h
   ·simp at h
   ·rename_i c;exact .inr (by simpa using c)
theorem Ko (t:Tm): (ZN t).1.mass≤t.mass+1:=by
 have z:=W4;have h1:=Ny t 1;have h2:=Ny (kid t 1) 0;unfold ZN;split
 ·simp only;omega
 ·split
  ·simp only;omega
  ·split
   ·simp only;omega
   ·split
    ·simp only;omega
    ·simp only;omega
theorem YW:QB []=[]:=rfl
theorem WA (x:Rp):QB [x]=[QZ x]:=rfl
theorem WB (x y:Rp):QB [x,y]=[QZ x,QZ y]:=rfl
theorem QiS (l:List Rp) (hl:ROk l) (x:Rp) (hv:thV x.t=0) (o:Bool) (bs:List (List AV)):
  call F.tb 415 [.sl o 8 (QB l),.agg (QZ x)] bs=some (.sl true 8 (QB (Zc l x)),bs):=by
 obtain⟨t,b⟩:=x;simp only at hv;obtain⟨_,_,hg,hma,hno⟩:=Zj hv;have h1: ∀n o,call F.tb 416 [.agg (Qa t),.sl o 1 [[.str n]]] bs=some (.bool (isB t n),bs):=fun n o=>by
  have:=Ln t [n] o bs (by simp);rw[BX]at this;exact this
 have h2: ∀n o,call F.tb 417 [.str n,.sl o 4 [Qa b]] bs=some (.agg (Qa (.mk 3 n 0 [b])),bs):=fun n o=>ST n [b] o bs;have h3:=QiT t bs (by unfold big;omega);have hkm:=Ko t;have h4:=fun o=>Ir l hl (ZN t).1 o bs (by omega);have e0:=Qg t;have e1:=Qg b;have e2: ∀n ks,Qa (.mk 3 n 0 ks)=[.int .i64 3,.str n,.int .i64 0,.sl false 4 (encTs ks)]:=fun n ks=>by simp[Qa]
 have p1:=h1 Ze;have p2:=h1 Q2;have p3:=h1 Zb;simp only[Ze]at p1;simp only[Q2]at p2;simp only[Zb]at p3;rw[Qb F.tb_415 _ _ rfl];simp only[Zc];cases c1:isB t Ze
 ·simp only[Ze]at c1;cases c2:isB t Q2
  ·simp only[Q2]at c2;by_cases c3: (ZN t).2=0
   ·obtain⟨_,hea⟩:=LB c3;have hk: ∃x y,t.kids=[x,y]:=by
     rcases hea with h | h
     ·exact Q3 hg h (by simp[Q8])
     ·exact Q3 hg h (by simp[Q8])
    obtain⟨y,z,hk⟩:=hk;have ey:=Qg y;have ekd:kid t 0=y:=by simp[kid,hk]
    rw[hk]at e0;simp only[encTs,ey]at e0;generalize hkt:ZN t=q at *;obtain⟨k,e⟩:=q;simp only at c3 h4;subst c3;have ek:=Qg k;simp only[QS]at h3;rw[ek]at h4;simp only[ek]at h3;cases c4:ofT l k with
    | none=>
     rw[c4,Yf]at h4;simp only[e0]at h3 p1 p2 p3;simp[F.f415C,QZ,p1,c1,p2,c2,h3,h4,hk,ey,encTs,YW]
    | some u=>
     have eu:=Qg u;rw[c4,ZV,eu]at h4;have h5: ∀n o,call F.tb 417 [.str n,.sl o 4 [Qa b,Qa u]] bs=some (.agg (Qa (.mk 3 n 0 [b,u])),bs):=fun n o=>ST n [b,u] o bs;simp only[e0,e1,eu,e2]at h3 p1 p2 p3 h5;cases c5:isB t Zb
     ·simp only[Zb]at c5;simp[F.f415C,QZ,p1,c1,p2,c2,p3,c5,h3,h4,h5,hk,ey,ekd,YW,WA,WB,encTs,e1,eu,DEC]
     ·simp only[Zb]at c5;simp[F.f415C,QZ,p1,c1,p2,c2,p3,c5,h3,h4,h5,hk,ey,ekd,YW,WA,WB,encTs,e1,eu,Q6]
   ·generalize hkt:ZN t=q at *;obtain⟨k,e⟩:=q;simp only at c3;have ek:=Qg k;simp only[QS]at h3;simp only[ek]at h3;simp only[e0]at h3 p1 p2 p3;simp[F.f415C,QZ,p1,c1,p2,c2,h3,c3,YW]
  ·obtain⟨y,z,hk⟩:=Q3 hg c2 (by simp[Q8]);have ey:=Qg y;have ekd:kid t 0=y:=by simp[kid,hk]
   rw[hk]at e0;simp only[encTs,ey]at e0;have q:=h2 READ;simp only[READ]at q;simp only[Q2]at c2;simp only[e0,e1,e2]at p1 p2 q;simp[F.f415C,QZ,p1,c1,p2,c2,q,hk,ey,ekd,YW,WA,WB,encTs,e1,READ]
 ·obtain⟨y,z,hk⟩:=Q3 hg c1 (by simp[Q8]);have ey:=Qg y;have ez:=Qg z;have ekd:kid t 0=y:=by simp[kid,hk]
  have ekd1:kid t 1=z:=by simp[kid,hk]
  rw[hk]at e0;simp only[encTs,ey,ez]at e0;have q:=h2 FST;have q2:=h2 SND;simp only[FST]at q;simp only[SND]at q2;simp only[Ze]at c1;simp only[e0,e1,e2]at p1 p2 q q2;simp[F.f415C,QZ,p1,c1,q,q2,hk,ey,ez,ekd,ekd1,YW,WA,WB,encTs,e1,FST,SND]
theorem Qi9 (l:List Rp) (hl:ROk l) (x:Rp) (hv:thV x.t=0) (o:Bool) (bs:List (List AV)):
  call F.tb 451 [.sl o 8 (QB l),.agg (QZ x)] bs=some (.tup [.sl false 8 (QB (Zc l x)),.bool !(Zc l x).isEmpty],bs):=by
 obtain⟨t,b⟩:=x;simp only at hv;obtain⟨_,_,hg,hma,hno⟩:=Zj hv;have h1: ∀n,call F.tb 132 [.agg (Qa t),.str n] bs=some (.bool (isB t n),bs):=fun n=>Un t n bs;have h2: ∀n o,call F.tb 120 [.str n,.sl o 4 [Qa b]] bs=some (.agg (Qa (.mk 3 n 0 [b])),bs):=fun n o=>Y4 n [b] o bs (by simp);have h3:=QiJ t bs (by unfold big;omega);have hkm:=Ko t;have h4:=fun o=>Lo l hl (ZN t).1 o bs (by omega);have e0:=Qg t;have e1:=Qg b;have e2: ∀n ks,Qa (.mk 3 n 0 ks)=[.int .i64 3,.str n,.int .i64 0,.sl false 4 (encTs ks)]:=fun n ks=>by simp[Qa]
 have p1:=h1 Ze;have p2:=h1 Q2;have p3:=h1 Zb;simp only[Ze]at p1;simp only[Q2]at p2;simp only[Zb]at p3;rw[Qb F.tb_451 _ _ rfl];simp only[Zc];cases c1:isB t Ze
 ·simp only[Ze]at c1;cases c2:isB t Q2
  ·simp only[Q2]at c2;by_cases c3: (ZN t).2=0
   ·obtain⟨_,hea⟩:=LB c3;have hk: ∃x y,t.kids=[x,y]:=by
     rcases hea with h | h
     ·exact Q3 hg h (by simp[Q8])
     ·exact Q3 hg h (by simp[Q8])
    obtain⟨y,z,hk⟩:=hk;have ey:=Qg y;have ekd:kid t 0=y:=by simp[kid,hk]
    rw[hk]at e0;simp only[encTs,ey]at e0;generalize hkt:ZN t=q at *;obtain⟨k,e⟩:=q;simp only at c3 h4;subst c3;have ek:=Qg k;simp only[QS]at h3;rw[ek]at h4;simp only[ek]at h3;cases c4:ofT l k with
    | none=>
     rw[c4,Yf]at h4;simp only[e0]at h3 p1 p2 p3;simp[F.f451C,QZ,p1,c1,p2,c2,h3,h4,hk,ey,encTs,YW]
    | some u=>
     have eu:=Qg u;rw[c4,ZV,eu]at h4;have h5: ∀n o,call F.tb 120 [.str n,.sl o 4 [Qa b,Qa u]] bs=some (.agg (Qa (.mk 3 n 0 [b,u])),bs):=fun n o=>Y4 n [b,u] o bs (by simp);simp only[e0,e1,eu,e2]at h3 p1 p2 p3 h5;cases c5:isB t Zb
     ·simp only[Zb]at c5;simp[F.f451C,QZ,p1,c1,p2,c2,p3,c5,h3,h4,h5,hk,ey,ekd,YW,WA,WB,encTs,e1,eu,DEC]
     ·simp only[Zb]at c5;simp[F.f451C,QZ,p1,c1,p2,c2,p3,c5,h3,h4,h5,hk,ey,ekd,YW,WA,WB,encTs,e1,eu,Q6]
   ·generalize hkt:ZN t=q at *;obtain⟨k,e⟩:=q;simp only at c3;have ek:=Qg k;simp only[QS]at h3;simp only[ek]at h3;simp only[e0]at h3 p1 p2 p3;simp[F.f451C,QZ,p1,c1,p2,c2,h3,c3,YW]
  ·obtain⟨y,z,hk⟩:=Q3 hg c2 (by simp[Q8]);have ey:=Qg y;have ekd:kid t 0=y:=by simp[kid,hk]
   rw[hk]at e0;simp only[encTs,ey]at e0;have q:=h2 READ;simp only[READ]at q;simp only[Q2]at c2;simp only[e0,e1,e2]at p1 p2 q;simp[F.f451C,QZ,p1,c1,p2,c2,q,hk,ey,ekd,YW,WA,WB,encTs,e1,READ]
 ·obtain⟨y,z,hk⟩:=Q3 hg c1 (by simp[Q8]);have ey:=Qg y;have ez:=Qg z;have ekd:kid t 0=y:=by simp[kid,hk]
  have ekd1:kid t 1=z:=by simp[kid,hk]
  rw[hk]at e0;simp only[encTs,ey,ez]at e0;have q:=h2 FST;have q2:=h2 SND;simp only[FST]at q;simp only[SND]at q2;simp only[Ze]at c1;simp only[e0,e1,e2]at p1 p2 q q2;simp[F.f451C,QZ,p1,c1,q,q2,hk,ey,ez,ekd,ekd1,YW,WA,WB,encTs,e1,FST,SND]
theorem Ep {x:Tm}: ∀{ks:List Tm},chkL ks=0→x∈ks→Z8 x=0
 | [],_,h=>by cases h
 | t:: ts,h,hx=>by
  simp only[chkL]at h;split at h
  ·rename_i hne;exact absurd h hne
  ·rename_i hne;rcases List.mem_cons.1 hx with rfl | hx
   ·simpa using hne
   ·exact Ep h hx
theorem Ey {x:Tm}: ∀{ks:List Tm},errL ks=0→x∈ks→ZI x=0
 | [],_,h=>by cases h
 | t:: ts,h,hx=>by
  simp only[errL]at h;split at h
  ·rename_i hne;exact absurd h hne
  ·rename_i hne;rcases List.mem_cons.1 hx with rfl | hx
   ·simpa using hne
   ·exact Ey h hx
theorem Qdo {t x:Tm} (h:ZI t=0) (hx:x∈t.kids):ZI x=0:=by
 obtain⟨k,n,s,ks⟩:=t;simp only[ZI]at h;split at h
 ·rename_i hne;exact absurd h hne
 ·exact Ey h hx
theorem Uy {t:Tm} (h:ZI t=0) (hk:t.kind=2):t.kids=[]:=by
 obtain⟨k,n,s,ks⟩:=t;simp only[ZI]at h;split at h
 ·rename_i hne;exact absurd h hne
 ·rename_i hne;obtain⟨_,_,_,b⟩:=Ur (t:= .mk k n s ks) (by simpa using hne);exact b (by simp only[YJ]at hk ⊢;omega)
theorem Qaf {t:Tm} (h:ZI t=0) (hk:t.kids≠[]):t.kind=3:=by
 obtain⟨k,n,s,ks⟩:=t;simp only[ZI]at h;split at h
 ·rename_i hne;exact absurd h hne
 ·rename_i hne;obtain⟨_,_,_,b⟩:=Ur (t:= .mk k n s ks) (by simpa using hne);exact Decidable.not_not.1 fun c=>hk (b c)
theorem LM {t x:Tm} (h:thV t=0) (hx:x∈t.kids):thV x=0:=by
 obtain⟨h1,h2,_⟩:=Zj h;obtain⟨he,hn,_⟩:=YX h1;have hd:t.depth≤40:=by
  unfold QF at h1;rw[if_neg (by simpa using he)]at h1;split at h1
  ·cases h1
  ·omega
 have hxe:=Qdo he hx;have hnn:=Z0 t;have hdd:=S9 t;have a:=UU hx;have b:=Nt hx;have hk:=Qaf he (List.ne_nil_of_mem hx);have hv:QF x=0:=by
  unfold QF;rw[if_neg (by simpa using hxe),if_neg (by omega)]
 have hc:Z8 x=0:=by
  obtain⟨k,n,s,ks⟩:=t;simp only[YJ,QN]at hk hx;subst hk;simp only[Z8]at h2;rw[if_neg (by simp)]at h2;split at h2
  ·cases h2
  ·split at h2
   ·cases h2
   ·split at h2
    ·cases h2
    ·split at h2
     ·cases h2
     ·exact Ep h2 hx
 unfold thV;rw[if_neg (by simpa using hv)];exact hc
mutual
theorem QkC: ∀{t x:Tm},thV t=0→x∈QY t→thV x=0
 | .mk k n s ks,x,h,hx=>by
  simp only[QY,List.mem_cons]at hx;rcases hx with rfl | hx
  ·exact h
  ·exact thV_allL (fun y hy=>LM h hy) hx
theorem thV_allL: ∀{ts:List Tm} {x:Tm},(∀y∈ts,thV y=0)→x∈allL ts→thV x=0
 | [],x,_,hx=>by simp[allL]at hx
 | t:: ts,x,h,hx=>by
  simp only[allL,List.mem_append]at hx;rcases hx with hx | hx
  ·exact QkC (h t (by simp)) hx
  ·exact thV_allL (fun y hy=>h y (by simp[hy])) hx
end
theorem X6 {f:Fr} (h:QI f=0): ∀x∈f.t,thV x=0:=fun x hx=>by
 unfold QI at h;split at h
 ·cases h
 ·split at h
  ·rename_i c;exact absurd h c
  ·have:=NN h x hx;unfold Y7 at this;split at this
   ·rename_i c;exact absurd this c
   ·rename_i c;simpa using c
theorem SW {t:Tm} {x y:Tm} (h:t.kids=[x,y]):kid t 0=x∧kid t 1=y:=by simp[kid,h]
theorem IM {l:List Rp} (hl:ROk l) {x:Rp} (hv:thV x.t=0) (hb:x.b.mass < 1000000):
  (∀y∈Zc l x,thV y.t=0∧y.b.mass < 1000000000)∧(Zc l x).length≤2∧((Zc l x).map fun y=>y.t.nodes).sum+1≤x.t.nodes:=by
 obtain⟨_,_,hg,hma,hno⟩:=Zj hv;have hnn:=Z0 x.t;have two: ∀a b,x.t.kids=[a,b]→thV a=0∧thV b=0∧kid x.t 0=a∧kid x.t 1=b∧a.nodes+b.nodes+1=x.t.nodes:=fun a b h=>by
  obtain⟨k0,k1⟩:=SW h;refine⟨LM hv (by rw[h];simp),LM hv (by rw[h];simp),k0,k1,?_⟩;rw[h]at hnn;simp only[nodesL]at hnn;omega
 have mk1: ∀n:List UInt8,n.length≤10→(Tm.mk 3 n 0 [x.b]).mass < 1000000000:=fun n hn=>by simp only[Tm.mass,massL,List.length_cons,List.length_nil];omega
 unfold Zc;cases c1:isB x.t Ze
 ·simp only[Bool.false_eq_true,if_false];cases c2:isB x.t Q2
  ·simp only[Bool.false_eq_true,if_false];by_cases c3: (ZN x.t).2=0
   ·rw[if_neg (by simpa using c3)];cases c4:ofT l (ZN x.t).1 with
    | none=>simp;omega
    | some u=>
     obtain⟨_,hea⟩:=LB c3;have hk: ∃a b,x.t.kids=[a,b]:=by
      rcases hea with h | h
      ·exact Q3 hg h (by simp[Q8])
      ·exact Q3 hg h (by simp[Q8])
     obtain⟨a,b,hk⟩:=hk;obtain⟨v1,v2,k0,k1,hn⟩:=two a b hk;have hum:=Kt hl.2 c4;have hkm:=Ko x.t;have hkn:=Zm (ZN x.t).1;have hmul:1000000* (ZN x.t).1.nodes≤1000000*401:=by
      refine Nat.mul_le_mul_left _ ?_;unfold ZN;rw[if_neg (by simpa using hv)];have e0:Qw.nodes=1:=by simp[Qw,Tm.nodes,nodesL]
      have hkd: ∀t i,(kid t i).nodes≤t.nodes+1:=fun t i=>by
       unfold kid;rw[List.getD_eq_getElem?_getD];cases hq:t.kids[i]? with
       | none=>simp only[Option.getD_none];omega
       | some z=>have:=UU (List.mem_of_getElem? hq);have:=Z0 t;simp only[Option.getD_some];omega
      split
      ·simp only;rw[k1];omega
      ·split
       ·simp only;omega
       ·split
        ·simp only;omega
        ·simp only;rw[k1];have:=hkd b 0;omega
     refine⟨?_,by simp,by simp[k0,k1];omega⟩;intro y hy;rw[List.mem_singleton]at hy;subst hy;refine⟨by rw[k0];exact v1,?_⟩;simp only[Tm.mass,massL,List.length_cons,List.length_nil];have: (if isB x.t Zb=true then Q6 else DEC).length≤4:=by split <;> simp[Q6,DEC]
     omega
   ·rw[if_pos (by simpa using c3)];simp;omega
  ·obtain⟨a,b,hk⟩:=Q3 hg c2 (by simp[Q8]);obtain⟨v1,v2,k0,k1,hn⟩:=two a b hk;refine⟨?_,by simp,by simp[k0,k1];omega⟩;intro y hy;simp only[if_true,List.mem_singleton]at hy;subst hy;exact⟨by rw[k0];exact v1,mk1 READ (by simp[READ])⟩
 ·obtain⟨a,b,hk⟩:=Q3 hg c1 (by simp[Q8]);obtain⟨v1,v2,k0,k1,hn⟩:=two a b hk;refine⟨?_,by simp,by simp[k0,k1];omega⟩;intro y hy;simp only[if_true,List.mem_cons,List.mem_nil_iff,or_false]at hy;rcases hy with rfl | rfl
  ·exact⟨by rw[k0];exact v1,mk1 FST (by simp[FST])⟩
  ·exact⟨by rw[k1];exact v2,mk1 SND (by simp[SND])⟩
theorem QiX (f:Fr) (hf:FOk f) (hM:massL f.t < 1000000) (x:Rp) (hx:x.b.mass < big) (pos:Nat) (bs:List (List AV)) (hp:bs[pos]? =some (Qj f)):
  call F.tb 423 [.agg (QZ x),.gp pos 0] bs=some (.bool (Yt f x.b),bs):=by
 have h:=Bm f hf hM x.b hx bs;have e:=Qg x.b;have hte:Qj f=[.sl false 4 (encTs f.s),.sl false 4 (encTs f.t)]:=rfl;rw[e,hte]at h;rw[hte]at hp;rw[Qb F.tb_423 _ _ rfl];simp[F.f423C,QZ,hp,h]
theorem Qc1 (l:List Rp) (g:Nat) (cs:List AV) (p:Rp→Bool) (bs:List (List AV)) (hl:l.length < 1000000) (hcs: ∀x∈cs,x.ok=true) (hp: ∀x∈l,call F.tb g (.agg (QZ x):: cs) bs=some (.bool (p x),bs)):
  ∀(post pre:List Rp) (o:Bool) (ρ:Nat→AV),l=pre ++ post→pre.any p=false→ρ 0= .sl o 8 (QB l)→ρ 1= .fn g cs→ρ 7= .int .i64 l.length→ρ 8= .int .i64 pre.length→
  TR (l.any p) bs (R F.tb (.loop F.f427l0) ρ bs (Ql 0 (Qr F.tb F.f427r0 (Qt F.f427 bs)))):=by
 intro post
 induction post with
 | nil=>
  intro pre o ρ hk hpp h0 h1 h7 h8;simp only[List.append_nil]at hk;rw[← hk]at h8 hpp;rw[Qc F.f427l0.eq_1];refine⟨-1,?_,by rw[hpp];simp⟩;simp[h0,h1,h7,h8,F.f427r0]
 | cons x post IH=>
  intro pre o ρ hk hpp h0 h1 h7 h8;have hgt:=YV (Qp hk);have hll:=Qx hk;have hw1:=wr1 pre.length (by omega);have hlt:=Qy hk;have hcall:=hp x (by rw[hk];simp);have hcs2: (∀(x:AV),x∈cs→x.ok=true)=True:=eq_true hcs;have ih:=fun ρ hpp=>IH (pre ++ [x]) o ρ (by rw[hk];simp) hpp;have es: (QZ x).map AV.strip=QZ x:=rfl;have el: (QZ x).length=8:=rfl;have et: (QZ x).take 8=QZ x:=rfl;rw[Qc F.f427l0.eq_1];cases ho:p x
  ·have ih2:=fun ρ=>ih ρ (by rw[List.any_append,hpp];simp[ho]);simp[h0,h1,h7,h8,hlt,hgt,es,el,et,hw1,hcall,hcs2,ho,-List.any_eq_false,-List.any_eq_true];apply ih2 <;> simp[h0,h1,h7]
  ·have hany:l.any p=true:=List.any_eq_true.2 ⟨x,by rw[hk];simp,ho⟩;refine⟨pre.length,?_,by rw[hany];simp⟩;simp[h0,h1,h7,h8,hlt,hgt,es,el,et,hcall,hcs2,ho]
theorem Qfe (l:List Rp) (g:Nat) (cs:List AV) (p:Rp→Bool) (o:Bool) (bs:List (List AV)) (hl:l.length < 1000000) (hcs: ∀x∈cs,x.ok=true) (hp: ∀x∈l,call F.tb g (.agg (QZ x):: cs) bs=some (.bool (p x),bs)):
  call F.tb 426 [.sl o 8 (QB l),.fn g cs] bs=some (.bool (l.any p),bs):=by
 have h1:=fun ρ=>Qc1 l g cs p bs hl hcs hp l [] false ρ rfl rfl;have hcs2: (∀(x:AV),x∈cs→x.ok=true)=True:=eq_true hcs;have h2:TR (l.any p) bs (call F.tb 427 [.sl false 8 (QB l),.fn g cs] bs):=by
  rw[Qb F.tb_427 _ _ rfl];simp[F.f427C,hcs2,-List.any_eq_false,-List.any_eq_true];apply h1 <;> simp[QX]
 obtain⟨i,hi,hb⟩:=h2;rw[Qb F.tb_426 _ _ rfl];simp[F.f426C,hi,hcs2,-List.any_eq_false,-List.any_eq_true];cases hx:l.any p
 ·rw[hx]at hb;simp at hb;simpa using hb
 ·rw[hx]at hb;simp at hb;simpa using hb
def Tj (f:Fr) (l:List Rp):Bool:=l.any fun x=>Yt f x.b
theorem QiY (f:Fr) (hf:FOk f) (hM:massL f.t < 1000000) (l:List Rp) (hl:l.length < 1000000) (hb: ∀x∈l,x.b.mass < big) (pos:Nat) (o:Bool) (bs:List (List AV)) (hp:bs[pos]? =some (Qj f)):
  call F.tb 426 [.sl o 8 (QB l),.fn 423 [.gp pos 0]] bs=some (.bool (Tj f l),bs):=
 Qfe l 423 [.gp pos 0] (fun x=>Yt f x.b) o bs hl (by simp) (fun x hx=>QiX f hf hM x (hb x hx) pos bs hp)
theorem QdB (f:Fr) (hf:FOk f) (hM:massL f.t < 1000000) (l:List Rp) (hl:l.length < 1000000) (hb: ∀x∈l,x.b.mass < big) (bs:List (List AV)):
  ∀(post pre:List Rp) (o:Bool) (ρ:Nat→AV),l=pre ++ post→ρ 1= .sl o 8 (QB l)→ρ 2= .bx (Qj f)→ρ 5= .int .i64 pre.length→
  R F.tb (.loop F.f455l0) ρ bs (Ql 0 (Qr F.tb F.f455r0 (Qt F.f455 bs)))=some (.bool (!Tj f post),bs):=by
 intro post
 induction post with
 | nil=>
  intro pre o ρ hk h1 h2 h5;simp only[List.append_nil]at hk;rw[← hk]at h5;rw[Qc F.f455l0.eq_1];simp[h1,h2,h5,QX,Tj,F.f455r0]
 | cons x post IH=>
  intro pre o ρ hk h1 h2 h5;have hgt:=YV (Qp hk);have hll:=Qx hk;have hw1:=wr1 pre.length (by omega);have hlt:=Qy hk;have hcall:=Bu f hf hM x.b (hb x (by rw[hk];simp)) bs;have ih:=fun ρ=>IH (pre ++ [x]) o ρ (by rw[hk];simp);have ed: ∀y:Rp,(QZ y).drop 4=Qa y.b:=fun y=>by simp[QZ,Qg]
  have hte:Qj f=[.sl false 4 (encTs f.s),.sl false 4 (encTs f.t)]:=rfl;rw[hte]at hcall h2;have el:Tj f (x:: post)=(Yt f x.b || Tj f post):=rfl;rw[Qc F.f455l0.eq_1,el];cases ho:Yt f x.b
  ·rw[ho]at hcall;simp[-getElem?_pos,h1,h2,h5,QX,hlt,hgt,hw1,ed,hcall];apply ih <;> simp[h1,h2,hte]
  ·rw[ho]at hcall;simp[-getElem?_pos,h1,h2,h5,QX,hlt,hgt,hw1,ed,hcall]
theorem Qjb (f:Fr) (hf:FOk f) (hM:massL f.t < 1000000) (l:List Rp) (hl:l.length < 1000000) (hb: ∀x∈l,x.b.mass < big) (o:Bool) (bs:List (List AV)):
  call F.tb 455 [.agg (Qj f),.sl o 8 (QB l)] bs=some (.bool (!Tj f l),bs):=by
 have h:=fun ρ=>QdB f hf hM l hl hb bs l [] false ρ rfl;rw[Qb F.tb_455 _ _ rfl];simp[F.f455C];apply h <;> simp[Qq]
def Ym:Nat→List Tm→List Rp
 | _,[]=>[]
 | i,t:: ts=>⟨t,Z5 i⟩:: Ym (i+1) ts
def Z4 (f:Fr):List Rp:=Ym 0 f.t ++ (Q0 f).map fun a=>⟨a,a⟩
def XI (l:List Rp) (os:List Nat):List Rp→Nat→Option (Nat×List Rp)
 | [],_=>none
 | x:: r,i=>if os.contains i || (Zc l x).isEmpty then XI l os r (i+1)else some (i,Zc l x)
def XZ (f:Fr):Nat→List Rp→List Nat→Option (List Rp)
 | 0,_,_=>none
 | n+1,l,os=>match XI l os l 0 with
  | none=>some l
  | some q=>if Tj f q.2 then none else XZ f n (l ++ q.2) (os ++ [q.1])
def phi (os:List Nat):List Rp→Nat→Nat
 | [],_=>0
 | x:: r,i=>(if os.contains i then 0 else x.t.nodes)+phi os r (i+1)
theorem LH (os:List Nat): ∀(a b:List Rp) (i:Nat),phi os (a ++ b) i=phi os a i+phi os b (i+a.length)
 | [],b,i=>by simp[phi]
 | x:: a,b,i=>by
  simp only[List.cons_append,phi,LH os a b (i+1),List.length_cons];rw[show i+1+a.length=i+ (a.length+1) by omega];omega
theorem E9 (os:List Nat): ∀(a:List Rp) (i:Nat),phi os a i≤(a.map fun y=>y.t.nodes).sum
 | [],i=>by simp[phi]
 | x:: a,i=>by
  have:=E9 os a (i+1);simp only[phi,List.map_cons,List.sum_cons];split <;> omega
theorem Ku (os:List Nat) (j:Nat): ∀(a:List Rp) (i:Nat),phi (os ++ [j]) a i≤phi os a i
 | [],i=>by simp[phi]
 | x:: a,i=>by
  have:=Ku os j a (i+1);simp only[phi];by_cases c:os.contains i=true
  ·have c2: (os ++ [j]).contains i=true:=by simp at c ⊢;exact .inl c
   rw[if_pos c,if_pos c2];omega
  ·rw[if_neg c];split <;> omega
structure U5 (l:List Rp) (os:List Nat) (n:Nat):Prop where
 ok: ∀x∈l,thV x.t=0∧x.b.mass < 1000000
 len:l.length+2*phi os l 0≤100000
 fuel:phi os l 0 < n
 lt: ∀i∈os,i < l.length
theorem Ra {l:List Rp} {os:List Nat} {n:Nat} (h:U5 l os n):ROk l:=
 ⟨by have:=h.len;omega,fun x hx=>⟨by have:=(Zj (h.ok x hx).1).2.2.2.1;omega,(h.ok x hx).2⟩⟩
theorem QdV {f:Fr} {l:List Rp} (h:Tj f l=false): ∀x∈l,x.b.mass≤13200:=fun x hx=>by
 unfold Tj at h;have h2:=List.any_eq_false.1 h x hx;unfold Yt at h2;split at h2
 ·exact absurd rfl h2
 ·rename_i c;exact(YX (by simpa using c)).2.2
theorem Mr {f:Fr} {l pre post:List Rp} {os:List Nat} {n:Nat} {x:Rp} (h:U5 l os (n+1)) (hk:l=pre ++ x:: post) (hc:os.contains pre.length=false) (hL:Tj f (Zc l x)=false):
  U5 (l ++ Zc l x) (os ++ [pre.length]) n:=by
 obtain⟨hv,hb⟩:=h.ok x (by rw[hk];simp);obtain⟨o1,o2,o3⟩:=IM (Ra h) hv hb;have p1:phi (os ++ [pre.length]) (l ++ Zc l x) 0+1≤phi os l 0:=by
  have a1:=E9 (os ++ [pre.length]) (Zc l x) (0+l.length);have a2:=Ku os pre.length pre 0;have a3:=Ku os pre.length post (0+pre.length+1);have c2: (os ++ [pre.length]).contains (0+pre.length)=true:=by simp
  have c1: ¬os.contains (0+pre.length)=true:=by rw[Nat.zero_add,hc];simp
  rw[LH];generalize hm:Zc l x=more at *;rw[hk,LH,LH];simp only[phi];rw[if_pos c2,if_neg c1];rw[hk]at a1;omega
 have h1:=h.len;have h2:=h.fuel;refine⟨?_,by rw[List.length_append];omega,by omega,?_⟩
 ·intro y hy;rcases List.mem_append.1 hy with hy | hy
  ·exact h.ok y hy
  ·exact⟨(o1 y hy).1,by have:=QdV hL y hy;omega⟩
 ·intro i hi;rw[List.length_append];rcases List.mem_append.1 hi with hi | hi
  ·have:=h.lt i hi;omega
  ·rw[List.mem_singleton]at hi;subst hi;rw[hk];simp;omega
theorem EN: ∀{l:List Tm} {i:Nat} {x:Rp},x∈Ym i l→∃j,j < i+l.length∧x.t∈l∧x.b=Z5 j
 | [],_,x,h=>by simp[Ym]at h
 | t:: ts,i,x,h=>by
  simp only[Ym,List.mem_cons]at h;rcases h with rfl | h
  ·exact⟨i,by simp,by simp,rfl⟩
  ·obtain⟨j,h1,h2,h3⟩:=EN h;exact⟨j,by simp only[List.length_cons];omega,by simp[h2],h3⟩
theorem Th: ∀(l:List Tm) (i:Nat),(Ym i l).length=l.length
 | [],_=>rfl
 | t:: ts,i=>by simp[Ym,Th ts]
theorem EO: ∀(l:List Tm) (i:Nat),((Ym i l).map fun y=>y.t.nodes).sum=nodesL l
 | [],_=>rfl
 | t:: ts,i=>by simp only[Ym,List.map_cons,List.sum_cons,EO ts,nodesL]
theorem UT: ∀{l:List Tm},(∀x∈l,x.nodes≤400)→nodesL l≤400*l.length
 | [],_=>by simp[nodesL]
 | t:: ts,h=>by
  have a:=h t (by simp);have b:=UT (l:=ts) fun x hx=>h x (by simp[hx]);simp only[nodesL,List.length_cons];omega
theorem IZ: ∀{l:List Tm},(∀x∈l,x.nodes=1)→((l.map fun a=>(⟨a,a⟩:Rp)).map fun y=>y.t.nodes).sum=l.length
 | [],_=>rfl
 | t:: ts,h=>by
  have a:=h t (by simp);have b:=IZ (l:=ts) fun x hx=>h x (by simp[hx]);simp only[List.map_cons,List.sum_cons,b,a,List.length_cons];omega
theorem OZ {f:Fr} (h:QI f=0):U5 (Z4 f) [] 40000∧(Z4 f).length=f.t.length+ (Q0 f).length:=by
 have hv:=X6 h;have hl:=Yy h;have hfree: ∀x∈Q0 f,thV x=0∧x.nodes=1:=fun x hx=>by
  obtain⟨h1,h2,_⟩:=UA.1 hx;have h3:=thV_allL hv h1;have h4:=Uy (V1 h3) h2;have:=Z0 x;rw[h4]at this;exact⟨h3,by simpa[nodesL]using this⟩
 have hn:nodesL f.t≤400*f.t.length:=UT fun x hx=>(Zj (hv x hx)).2.2.2.2;have hfl:=WE f;have e1: (Z4 f).length=f.t.length+ (Q0 f).length:=by simp[Z4,Th]
 have hp:phi [] (Z4 f) 0≤nodesL f.t+ (Q0 f).length:=by
  have:=E9 [] (Z4 f) 0;unfold Z4 at this ⊢;rw[List.map_append,List.sum_append,EO,IZ fun x hx=>(hfree x hx).2]at this;exact this
 refine⟨⟨?_,by omega,by omega,by simp⟩,e1⟩;intro x hx;unfold Z4 at hx;rcases List.mem_append.1 hx with hx | hx
 ·obtain⟨j,h1,h2,h3⟩:=EN hx;have:=MI j (by omega);exact⟨hv _ h2,by rw[h3];omega⟩
 ·obtain⟨a,ha,rfl⟩:=List.mem_map.1 hx;obtain⟨h1,h2⟩:=hfree a ha;have:=(Zj h1).2.2.2.1;exact⟨h1,by simp only;omega⟩
def Vs (f:Fr):Option (List Rp):=XZ f 40000 (Z4 f) []
theorem BK (f:Fr): ∀{n:Nat} {l m:List Rp} {os:List Nat},U5 l os n→XZ f n l os=some m→∃os' n',U5 m os' n'
 | 0,l,m,os,h,_=>absurd h.fuel (by omega)
 | n+1,l,m,os,h,he=>by
  unfold XZ at he;cases hs:XI l os l 0 with
  | none=>rw[hs]at he;injection he with he;subst he;exact⟨os,n+1,h⟩
  | some q=>
   rw[hs]at he;simp only at he;split at he
   ·cases he
   ·rename_i hL;have key: ∀(post pre:List Rp),l=pre ++ post→XI l os post pre.length=some q→∃pre x post,l=pre ++ x:: post∧q=(pre.length,Zc l x)∧os.contains pre.length=false:=by
     intro post
     induction post with
     | nil=>intro pre _ h;simp[XI]at h
     | cons y post IH=>
      intro pre hk h;unfold XI at h;split at h
      ·exact IH (pre ++ [y]) (by rw[hk];simp) (by simpa using h)
      ·rename_i c;simp only[Bool.or_eq_true,not_or,Bool.not_eq_true]at c;exact⟨pre,y,post,hk,by injection h with h;exact h.symm,c.1⟩
    obtain⟨pre,x,post,hk,hq,hc⟩:=key l [] rfl hs;subst hq;exact BK f (Mr h hk hc (by simpa using hL)) he
theorem Lt {f:Fr} (h:QI f=0) {m:List Rp} (he:Vs f=some m): ∃os n,U5 m os n:=BK f (OZ h).1 he
theorem Ip (f:Fr) (hf:FOk f) (hM:massL f.t < 1000000) (hv:QI f=0) (bs:List (List AV)):call F.tb 408 [.agg (Qj f)] bs=some (.sl false 4 (encTs (Q0 f)),bs):=by
 have h:=Qh2 f hf hM bs;have hg:Kg f=f.t ++ Q0 f:=by simp[Kg,hv]
 have hte:Qj f=[.sl false 4 (encTs f.s),.sl false 4 (encTs f.t)]:=rfl;rw[hg,hv,hte]at h;have hlt: ¬((f.t.length:Int)+ ((Q0 f).length:Int) < (f.t.length:Int)):=by omega
 have e: ((encTs (f.t ++ Q0 f)).take (f.t.length+ (Q0 f).length)).drop f.t.length=encTs (Q0 f):=by rw[T4,T2,← List.length_append,List.take_length,List.drop_left]
 rw[Qb F.tb_408 _ _ rfl,hte];simp[F.f408C,h,hlt,e]
def V5 (os:List Nat):List AV:=os.map fun j:Nat=> .agg [.int .i64 (j:Int),.bool true]
theorem Mw: ∀(os:List Nat) (i:Nat),Vw false (V5 os) (.int .i64 i)=some (if os.contains i then some (.bool true)else none)
 | [],i=>rfl
 | j:: os,i=>by
  have ih:=Mw os i;unfold V5 at ih ⊢;simp only[List.map_cons,Vw,RI,if_true];by_cases c:i=j
  ·subst c;simp
  ·have c': ((i:Int) == (j:Int))=false:=by simp;omega
   have c2: (j:: os).contains i=os.contains i:=by simp[c]
   rw[c',c2];exact ih
theorem Ew: ∀(os:List Nat) (i:Nat),os.contains i=false→Tp false (V5 os) (.int .i64 i) (.bool true)=some (V5 (os ++ [i]))
 | [],i,_=>rfl
 | j:: os,i,h=>by
  have c: ¬i=j:=fun e=>by subst e;simp at h
  have h2:os.contains i=false:=by simpa[c]using h
  have ih:=Ew os i h2;unfold V5 at ih ⊢;have c': ((i:Int) == (j:Int))=false:=by simp;omega
  simp only[List.map_cons,List.cons_append,Tp,RI,if_true,c',ih,Option.map_some]
def EB (bs:List (List AV)) (f:Fr) (os:List Nat):List (List AV):=bs ++ [Qj f,.undef:: V5 os]
theorem Qos (bs:List (List AV)) (f:Fr) (os:List Nat): (EB bs f os)[bs.length]? =some (Qj f):=by simp[EB]
theorem Qot (bs:List (List AV)) (f:Fr) (os:List Nat): (EB bs f os)[bs.length+1]? =some (.undef:: V5 os):=by simp[EB]
theorem QkH (bs:List (List AV)) (f:Fr) (os os':List Nat): (EB bs f os).set (bs.length+1) (.undef:: V5 os')=EB bs f os':=by simp[EB]
theorem Co (bs:List (List AV)) (f:Fr) (os:List Nat): (EB bs f os).take bs.length=bs:=by simp[EB]
theorem QkG (bs:List (List AV)) (f:Fr):bs ++ [Qj f,[.undef]]=EB bs f []:=rfl
def T0 (r:Option (List Rp)) (g:Nat):AV:=match r with
 | some l=> .tup [.sl false 8 (QB l),.int .i64 g,.int .i64 0]
 | none=> .tup [.sl false 8 [],.int .i64 0,.int .i64 3]
theorem RR {l:List Rp} {os:List Nat} {x:Rp} {post:List Rp} {i:Nat} (h:os.contains i=true∨Zc l x=[]):XI l os (x:: post) i=XI l os post (i+1):=by
 have e:XI l os (x:: post) i=if os.contains i || (Zc l x).isEmpty then XI l os post (i+1)else some (i,Zc l x):=rfl
 rw[e];rcases h with h | h
 ·rw[h];simp
 ·rw[h];simp
theorem HE {l:List Rp} {os:List Nat} {x:Rp} {post:List Rp} {i:Nat} (h:os.contains i=false) (h2:Zc l x≠[]):XI l os (x:: post) i=some (i,Zc l x):=by
 have e:XI l os (x:: post) i=if os.contains i || (Zc l x).isEmpty then XI l os post (i+1)else some (i,Zc l x):=rfl
 rw[e,h];cases ho:Zc l x with
 | nil=>exact absurd ho h2
 | cons=>simp
theorem O4 {n:Nat} (h:n≤1000000):n*112≤140737488355328:=by omega
theorem Qmx (f:Fr) (hf:FOk f) (hM:massL f.t < 1000000) (bs:List (List AV)) (g:Nat):
  ∀(n:Nat) (l:List Rp) (os:List Nat),U5 l os n→∀(post pre:List Rp) (ρ:Nat→AV),l=pre ++ post→XI l os l 0=XI l os post pre.length→
   ρ 1= .gp bs.length 0→ρ 5= .sl true 8 (QB l)→ρ 10= .int .i64 g→ρ 11= .mp (bs.length+1)→ρ 12= .int .i64 pre.length→
  R F.tb (.loop F.f414l2) ρ (EB bs f os) (Ql 4 (Qr F.tb F.f414r0 (Qt F.f414 bs)))=some (T0 (XZ f n l os) g,bs):=by
 intro n
 induction n with
 | zero=>intro l os h;exact absurd h.fuel (by omega)
 | succ n IHn=>
  intro l os hI post;have hR:=Ra hI;have hlen:=hR.1
  induction post with
  | nil=>
   intro pre ρ hk hs h1 h5 h10 h11 h12;simp only[List.append_nil]at hk;rw[← hk]at h12;have he:XZ f (n+1) l os=some l:=by unfold XZ;rw[hs];rfl
   rw[Qc F.f414l2.eq_1,he];simp[h1,h5,h10,h11,h12,QX,Ms,Co,T0,F.f414r0]
  | cons x post IH=>
   intro pre ρ hk hs h1 h5 h10 h11 h12;have hgt:=YV (Qp hk);have hll:=Qx hk;have hw1:=wr1 pre.length (by omega);have hw0:IntKind.i64.wrap 0=0:=rfl;have hlt:=Qy hk;have hem:=Qot bs f os;have hef:=Qos bs f os;have hlen2:=hI.len;obtain⟨hv,hb⟩:=hI.ok x (by rw[hk];simp);have hc:=fun o=>QiS l hR x hv o (EB bs f os);obtain⟨o1,o2,o3⟩:=IM hR hv hb;have es: (QZ x).map AV.strip=QZ x:=rfl;have el: (QZ x).length=8:=rfl;have et: (QZ x).take 8=QZ x:=rfl;have ih:=fun hs ρ=>IH (pre ++ [x]) ρ (by rw[hk];simp) hs;rw[Qc F.f414l2.eq_1];cases c1:os.contains pre.length
   ·have hfm:Vw false (V5 os) (.int .i64 (pre.length:Int))=some none:=by rw[Mw,c1];rfl
    by_cases c2:Zc l x=[]
    ·have ih2:=ih (by rw[hs,RR (.inr c2)];simp);rw[c2]at hc;have hnil:QB []=[]:=rfl;rw[hnil]at hc;simp[-getElem?_pos,h1,h5,h10,h11,h12,QX,hlt,hgt,hw1,hem,hfm,hc,es,el,et];apply ih2 <;> simp[h1,h5,h10,h11]
    ·have hsc:=HE (post:=post) c1 c2;have hL:=fun o=>QiY f hf hM (Zc l x) (by omega) (fun y hy=>by have:=(o1 y hy).2;unfold big;omega) bs.length o (EB bs f os) hef;have hne: ¬((Zc l x).length:Int)=0:=by
      have:=List.length_pos_iff.2 c2;omega
     have hu:=Ew os pre.length c1;have hset:=QkH bs f os (os ++ [pre.length]);cases c3:Tj f (Zc l x)
     ·rw[c3]at hL;have he:XZ f (n+1) l os=XZ f n (l ++ Zc l x) (os ++ [pre.length]):=by
       conv=>lhs;unfold XZ
       rw[hs,hsc];simp[c3]
      have hb2: (l.length+ (Zc l x).length)*112≤140737488355328:=O4 (by omega);have hi:=IHn (l ++ Zc l x) (os ++ [pre.length]) (Mr hI hk c1 c3) (l ++ Zc l x) [];rw[he];have hi2:=fun ρ=>hi ρ rfl rfl;generalize hmm:Zc l x=more at *;simp[-getElem?_pos,h1,h5,h10,h11,h12,QX,hlt,hgt,hw0,hem,hfm,hc,es,el,et,c2,hL,hu,hset,hb2,K4];apply hi2 <;> simp[h1,h10,h11]
     ·rw[c3]at hL;have he:XZ f (n+1) l os=none:=by
       unfold XZ;rw[hs,hsc];simp[c3]
      rw[he];generalize hmm:Zc l x=more at *;simp[-getElem?_pos,h1,h5,h10,h11,h12,QX,hlt,hgt,hem,hfm,hc,es,el,et,c2,hL,Co,T0]
   ·have hfm:Vw false (V5 os) (.int .i64 (pre.length:Int))=some (some (.bool true)):=by rw[Mw,c1];rfl
    have ih2:=ih (by rw[hs,RR (.inl c1)];simp);simp[-getElem?_pos,h1,h5,h10,h11,h12,QX,hlt,hgt,hw1,hem,hfm];apply ih2 <;> simp[h1,h5,h10,h11]
theorem Qmy (f:Fr) (hf:FOk f) (hM:massL f.t < 1000000) (hv:QI f=0) (bs:List (List AV)) (ρ:Nat→AV) (h1:ρ 1= .gp bs.length 0) (h5:ρ 5= .sl true 8 (QB (Z4 f))):
  R F.tb F.f414r1 ρ (bs ++ [Qj f]) (Qt F.f414 bs)=some (T0 (Vs f) (Z4 f).length,bs):=by
 obtain⟨hI,_⟩:=OZ hv;have h2:=fun ρ=>Qmx f hf hM bs (Z4 f).length 40000 (Z4 f) [] hI (Z4 f) [] ρ rfl rfl;have e:=QkG bs f;unfold Vs;generalize XZ f 40000 (Z4 f) []=X at *;simp[F.f414r1,h1,h5,e,QX];apply h2 <;> simp[h1,h5]
theorem Qmw (f:Fr) (hf:FOk f) (hM:massL f.t < 1000000) (hv:QI f=0) (bs:List (List AV)):
  ∀(post pre:List Tm) (ρ:Nat→AV),Q0 f=pre ++ post→ρ 1= .gp bs.length 0→ρ 5= .sl true 8 (QB (Ym 0 f.t ++ pre.map fun a=>⟨a,a⟩))→ρ 33= .sl false 4 (encTs (Q0 f))→ρ 34= .int .i64 (Q0 f).length→ρ 35= .int .i64 pre.length→
  R F.tb (.loop F.f414l1) ρ (bs ++ [Qj f]) (Ql 2 (Qr F.tb F.f414r1 (Qt F.f414 bs)))=some (T0 (Vs f) (Z4 f).length,bs):=by
 obtain⟨hI,hl0⟩:=OZ hv;have hlen:=hI.len;intro post
 induction post with
 | nil=>
  intro pre ρ hk h1 h5 h33 h34 h35;simp only[List.append_nil]at hk;rw[← hk]at h35 h5;have h2:=fun ρ=>Qmy f hf hM hv bs ρ;rw[Qc F.f414l1.eq_1];simp[h1,h33,h34,h35];apply h2 <;> simp[h1,h5,Z4]
 | cons x post IH=>
  intro pre ρ hk h1 h5 h33 h34 h35;have hg:=Qp hk;have hll: (Q0 f).length=pre.length+ (post.length+1):=by rw[hk];simp
  have hw1:=wr1 pre.length (by omega);have hlt: (pre.length:Int) < ((Q0 f).length:Int):=by omega
  have ih:=fun ρ=>IH (pre ++ [x]) ρ (by rw[hk];simp);have hb2: ((Ym 0 f.t ++ pre.map fun a=>(⟨a,a⟩:Rp)).length+1)*112≤140737488355328:=O4 (by simp only[List.length_append,List.length_map,Th];omega);have e1:=Qg x;have ea:QB (Ym 0 f.t ++ (pre ++ [x]).map fun a=>(⟨a,a⟩:Rp))=QB (Ym 0 f.t ++ pre.map fun a=>(⟨a,a⟩:Rp))++ [QZ ⟨x,x⟩]:=by simp[QB]
  have er:QZ ⟨x,x⟩=[.int .i64 x.kind,.str x.name,.int .i64 x.sort,.sl false 4 (encTs x.kids),.int .i64 x.kind,.str x.name,.int .i64 x.sort,.sl false 4 (encTs x.kids)]:=rfl;rw[er]at ea;simp only[ea]at ih;generalize (Ym 0 f.t ++ pre.map fun a=>(⟨a,a⟩:Rp))=L at *;rw[Qc F.f414l1.eq_1];simp[h1,h5,h33,h34,h35,hg,hlt,hw1,e1,QX,hb2];apply ih <;> simp[h1,h33,h34]
theorem Qmv (f:Fr) (hf:FOk f) (hM:massL f.t < 1000000) (hv:QI f=0) (bs:List (List AV)):
  ∀(post pre:List Tm) (ρ:Nat→AV),f.t=pre ++ post→ρ 1= .gp bs.length 0→ρ 5= .sl true 8 (QB (Ym 0 pre))→ρ 15= .sl false 4 (encTs f.t)→ρ 16= .int .i64 f.t.length→ρ 17= .int .i64 pre.length→
  R F.tb (.loop F.f414l0) ρ (bs ++ [Qj f]) (Ql 0 (Qr F.tb F.f414r2 (Qt F.f414 bs)))=some (T0 (Vs f) (Z4 f).length,bs):=by
 have hle:=Yy hv;have happ: ∀(l:List Tm) (x:Tm) (i:Nat),Ym i (l ++ [x])=Ym i l ++ [⟨x,Z5 (i+l.length)⟩]:=by
  intro l x
  induction l with
  | nil=>intro i;rfl
  | cons y l ih=>intro i;simp only[List.cons_append,Ym,ih (i+1),List.length_cons];rw[show i+1+l.length=i+ (l.length+1) by omega]
 intro post
 induction post with
 | nil=>
  intro pre ρ hk h1 h5 h15 h16 h17;simp only[List.append_nil]at hk;rw[← hk]at h17 h5;have h2:=fun ρ=>Qmw f hf hM hv bs (Q0 f) [] ρ rfl;have hc:=Ip f hf hM hv (bs ++ [Qj f]);have hte:Qj f=[.sl false 4 (encTs f.s),.sl false 4 (encTs f.t)]:=rfl;have hgf: (bs ++ [Qj f])[bs.length]? =some (Qj f):=by simp
  rw[hte]at hc hgf h2 ⊢;rw[Qc F.f414l0.eq_1];simp[-getElem?_pos,h1,h15,h16,h17,F.f414r2,hc,hgf];apply h2 <;> simp[h1,h5]
 | cons x post IH=>
  intro pre ρ hk h1 h5 h15 h16 h17;have hg:=Qp hk;have hll:=Qx hk;have hw1:=wr1 pre.length (by omega);have hlt:=Qy hk;have ih:=fun ρ=>IH (pre ++ [x]) ρ (by rw[hk];simp);have hb2: ((Ym 0 pre).length+1)*112≤140737488355328:=O4 (by rw[Th];omega);have e1:=Qg x;have hit:=I1 pre.length (bs ++ [Qj f]) (by omega);have hdl:=VS 9 pre.length (by omega);have hdb:1+ (YI pre.length).length≤9223372036854775807:=by omega
  have ea:QB (Ym 0 (pre ++ [x]))=QB (Ym 0 pre)++ [[.int .i64 x.kind,.str x.name,.int .i64 x.sort,.sl false 4 (encTs x.kids),.int .i64 1,.str (119:: YI pre.length),.int .i64 0,.sl false 4 []]]:=by
   rw[happ];simp[QB,QZ,Z5,encTs]
  rw[ea]at ih;generalize Ym 0 pre=L at *;rw[Qc F.f414l0.eq_1];simp[h1,h5,h15,h16,h17,hg,hlt,hw1,e1,QX,hb2,hit,hdb];apply ih <;> simp[h1,h15,h16]
theorem QiR (f:Fr) (hf:FOk f) (hM:massL f.t < 1000000) (hv:QI f=0) (bs:List (List AV)):call F.tb 414 [.agg (Qj f)] bs=some (T0 (Vs f) (Z4 f).length,bs):=by
 have h:=fun ρ=>Qmv f hf hM hv bs f.t [] ρ rfl;have hte:Qj f=[.sl false 4 (encTs f.s),.sl false 4 (encTs f.t)]:=rfl;rw[Qb F.tb_414 _ _ rfl];rw[hte]at h ⊢;simp[F.f414C];apply h <;> simp[Ym,QB]
end Go.Am
