/-
  Rc39, Rc40, Rc41, Rc42, Sc1, Sc2, Sc3, Sc4, Rc43, Rc44, Rc45, Sc5.
-/
import Derived.Test.YtpgbndmkiiakaaaGreatDoorG20
set_option linter.unusedVariables false
set_option linter.unusedSimpArgs false
namespace Go.Am
set_option maxRecDepth 8000
mutual
def Zv (f:List Tm):Tm→Tm
 | .mk k n s ks=>if k=1 then(match WX (.mk k n s ks) 0 f with
  | some p=>p.2
  | none=> .mk k n s ks)else .mk k n s (putL f ks)
def putL (f:List Tm):List Tm→List Tm
 | []=>[]
 | t:: ts=>Zv f t:: putL f ts
end
theorem NG (f:List Tm): ∀l:List Tm,(putL f l).length=l.length
 | []=>rfl
 | t:: ts=>by simp[putL,NG f ts]
theorem Kf {x:Tm}: ∀{l:List Tm} {k:Nat} {p:Nat×Tm},WX x k l=some p→k≤p.1∧l[p.1 - k]? =some p.2
 | [],k,p,h=>by simp[WX]at h
 | t:: ts,k,p,h=>by
  simp only[WX]at h;split at h
  ·injection h with h;subst h;simp
  ·obtain⟨h1,h2⟩:=Kf h;refine⟨by omega,?_⟩;obtain⟨m,hm⟩: ∃m,p.1 - k=m+1:=⟨p.1 - k - 1,by omega⟩;rw[hm,List.getElem?_cons_succ,← h2];congr 1;omega
theorem Rd {x:Tm} {l:List Tm} {k:Nat} {p:Nat×Tm} (h:WX x k l=some p):p.2∈l:=List.mem_of_getElem? (Kf h).2
def F2 (f:List Tm) (r:Tm):Prop:=∀x∈QY r,x.kind=1→WX x 0 f≠none
theorem Qh0 {f:List Tm} {k:Int} {n:List UInt8} {s:Int} {ks:List Tm} (h:F2 f (.mk k n s ks)) {x:Tm} (hx:x∈ks):F2 f x:=fun y hy=>h y (by
 simp only[QY];refine List.mem_cons_of_mem _ ?_;clear h
 induction ks with
 | nil=>cases hx
 | cons z zs ih=>
  simp only[allL,List.mem_append];rcases List.mem_cons.1 hx with rfl | hx
  ·exact .inl hy
  ·exact .inr (ih hx))
theorem Qgc (f:Fr) (t:Tm) (bs:List (List AV)) (hm:t.mass < 1000000) (ih: ∀x∈t.kids,∀bs:List (List AV),call F.tb 225 [.agg (Qj f),.agg (Qa x)] bs=some (.agg (Qa (Zv f.t x)),bs)):
  ∀(post pre us:List Tm) (ρ:Nat→AV),t.kids=pre ++ post→us.length=pre.length→ρ 2= .bx (Qj f)→ρ 4= .bx [.int .i64 0,.str [],.int .i64 0,.sl true 4 []]→
   ρ 5= .bx [.int .i64 t.kind,.str t.name,.int .i64 t.sort,.sl true 4 (encTs us)]→ρ 27= .sl false 4 (encTs t.kids)→ρ 28= .int .i64 t.kids.length→ρ 29= .int .i64 pre.length→
  R F.tb (.loop F.f225l0) ρ bs (Ql 0 (Qr F.tb F.f225r0 (Qt F.f225 bs)))=some (.agg (Qa (.mk t.kind t.name t.sort (us ++ putL f.t post))),bs):=by
 have hme:=Qo t;intro post
 induction post with
 | nil=>
  intro pre us ρ hk hl h2 h4 h5 h27 h28 h29;simp only[List.append_nil]at hk;rw[← hk]at h29;rw[Qc F.f225l0.eq_1];simp[h2,h4,h5,h27,h28,h29,F.f225r0,putL];simp[Qa]
 | cons x post IH=>
  intro pre us ρ hk hl h2 h4 h5 h27 h28 h29;have hg2:=Qp hk;have hll:=Qx hk;have hw1:=wr1 pre.length (by omega);have hlt:=Qy hk;have hc:=ih x (by rw[hk];simp) bs;have hb: (us.length+1)*56≤140737488355328:=Yi (by omega);have hi:=fun ρ=>IH (pre ++ [x]) (us ++ [Zv f.t x]) ρ (by rw[hk];simp) (by simp[hl]);have e:us ++ putL f.t (x:: post)=us ++ [Zv f.t x]++ putL f.t post:=by simp[putL]
  rw[Qc F.f225l0.eq_1,e];simp[h2,h4,h5,h27,h28,h29,hg2,hlt,hw1,hc,hb,QA,Qq,QG,Q7,QP,-List.append_assoc];apply hi <;> simp[h2,h4,h27,h28]
theorem Qip (f:Fr) (hf:FOk f): ∀(r:Tm) (bs:List (List AV)),r.mass < 1000000→F2 f.t r→call F.tb 225 [.agg (Qj f),.agg (Qa r)] bs=some (.agg (Qa (Zv f.t r)),bs):=by
 refine Zp (P:=fun r=>∀(bs:List (List AV)),r.mass < 1000000→F2 f.t r→call F.tb 225 [.agg (Qj f),.agg (Qa r)] bs=some (.agg (Qa (Zv f.t r)),bs)) ?_;intro k n s ks ih bs hm hb;have hme:=Qo (.mk k n s ks);simp only[QN,Q5]at hme;rw[Qb F.tb_225 _ _ rfl];by_cases k1:k=1
 ·subst k1;have h1:=Bd f hf (.mk 1 n s ks) (by unfold big;omega) bs;obtain⟨p,hp⟩: ∃p,WX (.mk 1 n s ks) 0 f.t=some p:=by
   cases hx:WX (.mk 1 n s ks) 0 f.t with
   | none=>exact absurd hx (hb _ (by simp[QY]) rfl)
   | some p=>exact⟨p,rfl⟩
  have hix:ixT (.mk 1 n s ks) 0 f.t=p.1:=by simp[ixT,hp]
  rw[hix]at h1;have hg:=(Kf hp).2;simp only[Nat.sub_zero]at hg;have hlt:=(List.getElem?_eq_some_iff.1 hg).1;have h2:=C8 p.2 bs (by have:=hf.t p.2 (Rd hp);unfold big;omega);have e:Zv f.t (.mk 1 n s ks)=p.2:=by simp[Zv,hp]
  rw[e];have hte:Qj f=[.sl false 4 (encTs f.s),.sl false 4 (encTs f.t)]:=rfl;rw[hte]at h1 ⊢;have hgi: (encTs f.t)[p.1]'(by rw[XM];exact hlt)=Qa p.2:=by
   have h3: (encTs f.t)[p.1]? =some (Qa p.2):=by simp[hg]
   exact(List.getElem?_eq_some_iff.1 h3).2
  simp[F.f225C,h1,hg,hlt,h2,hgi]
 ·have hl:=fun ρ=>Qgc f (.mk k n s ks) bs hm (fun x hx bs=>ih x hx bs (by have h1:x.mass≤massL ks:=QD hx;omega) (Qh0 hb hx)) ks [] [] ρ rfl rfl;have e:Zv f.t (.mk k n s ks)= .mk k n s ([]++ putL f.t ks):=by simp[Zv,k1]
  rw[e];simp only[Q5,QN,YJ,Wu]at hl;simp[F.f225C,k1];apply hl <;> simp[encTs,Qq]
theorem Qe7 (l:List Tm) (g:Nat) (cs:List AV) (p:Tm→Bool) (bs:List (List AV)) (hl:l.length < 1000000) (hcs: ∀x∈cs,x.ok=true) (hp: ∀x∈l,call F.tb g (.agg (Qa x):: cs) bs=some (.bool (p x),bs)):
  ∀(post pre:List Tm) (o:Bool) (ρ:Nat→AV),l=pre ++ post→pre.any p=false→ρ 0= .sl o 4 (encTs l)→ρ 1= .fn g cs→ρ 7= .int .i64 l.length→ρ 8= .int .i64 pre.length→
  TR (l.any p) bs (R F.tb (.loop F.f215l0) ρ bs (Ql 0 (Qr F.tb F.f215r0 (Qt F.f215 bs)))):=by
 intro post
 induction post with
 | nil=>
  intro pre o ρ hk hpp h0 h1 h7 h8;simp only[List.append_nil]at hk;rw[← hk]at h8 hpp;rw[Qc F.f215l0.eq_1];refine⟨-1,?_,by rw[hpp];simp⟩;simp[h0,h1,h7,h8,F.f215r0]
 | cons x post IH=>
  intro pre o ρ hk hpp h0 h1 h7 h8;have hgt:=Qp hk;have hll:=Qx hk;have hw1:=wr1 pre.length (by omega);have hlt:=Qy hk;have hcall:=hp x (by rw[hk];simp);have hcs2: (∀(x:AV),x∈cs→x.ok=true)=True:=eq_true hcs;have ih:=fun ρ hpp=>IH (pre ++ [x]) o ρ (by rw[hk];simp) hpp;rw[Qc F.f215l0.eq_1];cases ho:p x
  ·have ih2:=fun ρ=>ih ρ (by rw[List.any_append,hpp];simp[ho]);simp[h0,h1,h7,h8,hlt,hgt,hw1,hcall,hcs2,ho,-List.any_eq_false,-List.any_eq_true];apply ih2 <;> simp[h0,h1,h7]
  ·have hany:l.any p=true:=List.any_eq_true.2 ⟨x,by rw[hk];simp,ho⟩;refine⟨pre.length,?_,by rw[hany];simp⟩;simp[h0,h1,h7,h8,hlt,hgt,hcall,hcs2,ho]
theorem W9 (l:List Tm) (g:Nat) (cs:List AV) (p:Tm→Bool) (o:Bool) (bs:List (List AV)) (hl:l.length < 1000000) (hcs: ∀x∈cs,x.ok=true) (hp: ∀x∈l,call F.tb g (.agg (Qa x):: cs) bs=some (.bool (p x),bs)):
  call F.tb 214 [.sl o 4 (encTs l),.fn g cs] bs=some (.bool (l.any p),bs):=by
 have h1:=fun ρ=>Qe7 l g cs p bs hl hcs hp l [] false ρ rfl rfl;have hcs2: (∀(x:AV),x∈cs→x.ok=true)=True:=eq_true hcs;have h2:TR (l.any p) bs (call F.tb 215 [.sl false 4 (encTs l),.fn g cs] bs):=by
  rw[Qb F.tb_215 _ _ rfl];simp[F.f215C,hcs2,-List.any_eq_false,-List.any_eq_true];apply h1 <;> simp
 obtain⟨i,hi,hb⟩:=h2;rw[Qb F.tb_214 _ _ rfl];simp[F.f214C,hi,hcs2,-List.any_eq_false,-List.any_eq_true];cases hx:l.any p
 ·rw[hx]at hb;simp at hb;simpa using hb
 ·rw[hx]at hb;simp at hb;simpa using hb
theorem Qir (n:List UInt8) (bs:List (List AV)):call F.tb 227 [.str n] bs=some (.bool (Yw n),bs):=by
 rw[Qb F.tb_227 _ _ rfl];by_cases c1:n=FST
 ·simp[F.f227C,Yw,FST,SND,DEC,Q6,QV,READ,c1]
 ·by_cases c2:n=SND
  ·simp[F.f227C,Yw,FST,SND,DEC,Q6,QV,READ,c2]
  ·by_cases c3:n=DEC
   ·simp[F.f227C,Yw,FST,SND,DEC,Q6,QV,READ,c3]
   ·by_cases c4:n=Q6
    ·simp[F.f227C,Yw,FST,SND,DEC,Q6,QV,READ,c4]
    ·by_cases c5:n=QV
     ·simp[F.f227C,Yw,FST,SND,DEC,Q6,QV,READ,c5]
     ·by_cases c6:n=READ
      ·simp[F.f227C,Yw,FST,SND,DEC,Q6,QV,READ,c6]
      ·simp only[FST,SND,DEC,Q6,QV,READ]at c1 c2 c3 c4 c5 c6;simp[F.f227C,Yw,FST,SND,DEC,Q6,QV,READ,c1,c2,c3,c4,c5,c6,Bool.or_assoc]
theorem BM: ∀l:List Tm,(l.any fun x=> !evT x)= !evL l
 | []=>rfl
 | t:: ts=>by simp only[List.any_cons,evL,BM ts,Bool.not_and]
theorem Qiq: ∀(t:Tm) (bs:List (List AV)),t.mass < 1000000→call F.tb 226 [.agg (Qa t)] bs=some (.bool (!evT t),bs):=by
 refine Zp ?_;intro k n s ks ih bs hm;have hme:=Qo (.mk k n s ks);simp only[QN,Q5]at hme;have h1:=Qir n bs;have h2:=fun o=>W9 ks 226 [] (fun x=> !evT x) o bs (by omega) (by simp) (fun x hx=>ih x hx bs (by have h1:x.mass≤massL ks:=QD hx;omega));rw[BM]at h2;rw[Qb F.tb_226 _ _ rfl,Qdp];simp only[QN];by_cases hk:k=3
 ·cases hd:Yw n
  ·have e:ndN (.mk k n s ks)=true:=by simp[ndN,hd]
   rw[e];simp[F.f226C,hk,hd,h1,h2]
  ·have e:ndN (.mk k n s ks)=false:=by simp[ndN,hd,hk]
   rw[e];simp[F.f226C,hk,hd,h1]
 ·have e:ndN (.mk k n s ks)=true:=by simp[ndN,hk]
  rw[e];simp[F.f226C,hk,h2]
def Zf (f:Fr) (r:Tm):Tm×Int:=
 if Vt f r≠0 then(Qw,Vt f r)else if(Zg (Zv f.t r)).2≠0 then(Qw,(Zg (Zv f.t r)).2)else if evT (Zg (Zv f.t r)).1 then((Zg (Zv f.t r)).1,0)else(Qw,11)
mutual
theorem Kw {f:List Tm} {M:Nat} (hf: ∀x∈f,x.mass≤M): ∀r:Tm,(Zv f r).mass≤r.mass+M*r.nodes
 | .mk k n s ks=>by
  simp only[Zv];split
  ·split
   ·rename_i p hp;have:=hf p.2 (Rd hp);simp only[Tm.nodes,Nat.mul_add,Nat.mul_one];omega
   ·simp only[Tm.mass,Tm.nodes];omega
  ·have:=putL_mass hf ks;simp only[Tm.mass,Tm.nodes,NG,Nat.mul_add];omega
theorem putL_mass {f:List Tm} {M:Nat} (hf: ∀x∈f,x.mass≤M): ∀l:List Tm,massL (putL f l)≤massL l+M*nodesL l
 | []=>by simp[putL,massL]
 | t:: ts=>by
  have h1:=Kw hf t;have h2:=putL_mass hf ts;simp only[putL,massL,nodesL,Nat.mul_add];omega
end
theorem BS {f a:List Tm}: ∀{l:List Tm},frE f a l=0→∀x∈l,YE f a x=0
 | [],_,x,hx=>by cases hx
 | y:: l,h,x,hx=>by
  simp only[frE]at h;by_cases c:YE f a y=0
  ·rw[if_neg (by simpa using c)]at h;rcases List.mem_cons.1 hx with rfl | hx
   ·exact c
   ·exact BS h x hx
  ·rw[if_pos c]at h;exact absurd h c
theorem IO {f:Fr} {r:Tm} (h:Vt f r=0):QI f=0∧thV r=0∧frE f.t (Q0 f) (QY r)=0∧F2 f.t r:=by
 unfold Vt at h;by_cases c1:QI f=0
 ·rw[if_neg (by simpa using c1)]at h;by_cases c2:thV r=0
  ·rw[if_neg (by simpa using c2)]at h;refine⟨c1,c2,h,fun x hx hk=> ?_⟩;have h3:=BS h x hx;simp only[YE,hk,if_true]at h3;intro e;simp[ixT,e]at h3
  ·rw[if_pos c2]at h;exact absurd h c2
 ·rw[if_pos c1]at h;exact absurd h c1
theorem Ij (f:Fr) (hf:FOk f) (hM:massL f.t < 1000000) (r:Tm) (hr:r.mass < 1000000) (bs:List (List AV)):call F.tb 219 [.agg (Qj f),.agg (Qa r)] bs=some (QS (Zf f r),bs):=by
 have h1:=Qil f hf hM r hr bs;have hte:Qj f=[.sl false 4 (encTs f.s),.sl false 4 (encTs f.t)]:=rfl;rw[Qb F.tb_219 _ _ rfl];by_cases c1:Vt f r=0
 ·obtain⟨v1,v2,v3,v4⟩:=IO c1;have h2:=Qip f hf r bs hr v4;obtain⟨t1,t2,t3,t4,t5⟩:=Zj v2;have hpm:=Kw (f:=f.t) (M:=1000000) (fun x hx=>by have:=hf.t x hx;omega) r;have h3:=C5 (Zv f.t r) bs (by have:1000000*r.nodes≤1000000*400:=Nat.mul_le_mul_left _ t5;unfold big;omega);have hnm:=UV (Zv f.t r);have h4:=Qiq (Zg (Zv f.t r)).1 bs (by omega);simp only[QS]at h3;by_cases c2: (Zg (Zv f.t r)).2=0
  ·cases c3:evT (Zg (Zv f.t r)).1
   ·have e:Zf f r=(Qw,11):=by simp[Zf,c1,c2,c3]
    rw[e];simp[F.f219C,QA,Qq,QG,h1,h2,h3,h4,c1,c2,c3,QM,QE]
   ·have e:Zf f r=((Zg (Zv f.t r)).1,0):=by simp[Zf,c1,c2,c3]
    rw[e];simp[F.f219C,QA,Qq,QG,h1,h2,h3,h4,c1,c2,c3,QM]
  ·have e:Zf f r=(Qw,(Zg (Zv f.t r)).2):=by simp[Zf,c1,c2]
   rw[e];simp[F.f219C,QA,Qq,QG,h1,h2,h3,c1,c2,QM,QE]
 ·have e:Zf f r=(Qw,Vt f r):=by simp[Zf,c1]
  rw[e];simp[F.f219C,QA,Qq,QG,h1,c1,QM,QE]
theorem QiF: ∀(n:Nat) (bs:List (List AV)),n < 1000000000000→call F.tb 271 [.int .i64 n] bs=some (.str (YI n),bs):=by
 intro n
 induction n using Nat.strongRecOn with
 | ind n ih=>
  intro bs hn;rw[Qb F.tb_271 _ _ rfl];by_cases h:n < 10
  ·have e1: ((n:Int) < 10):=by omega
   have e2:IntKind.i64.wrap ((n:Int)+1)=(n:Int)+1:=ZG (by omega) (by omega);have e3:0≤(n:Int)+1∧(n:Int)+1≤10:=by omega
   have e4: ((n:Int)+1).toNat=n+1:=by omega
   have hd:=Qfx h;simp[F.f271,F.f271C,e1,e2,e3,e4,Wz h];simpa using hd
  ·have e1: ¬((n:Int) < 10):=by omega
   have e2:IntKind.i64.wrap ((n:Int) / 10)=(n:Int) / 10:=ZG (by omega) (by omega);have i1: ∀bs,call F.tb 271 [.int .i64 ((n:Int) / 10)] bs=some (.str (YI (n / 10)),bs):=fun bs=>by
    have:=ih (n / 10) (by omega) bs (by omega);simpa using this
   have i2: ∀bs,call F.tb 271 [.int .i64 ((n:Int) % 10)] bs=some (.str (YI (n % 10)),bs):=fun bs=>by
    have:=ih (n % 10) (by omega) bs (by omega);simpa using this
   have hl:=Qfs (n / 10);have hl2: (YI (n / 10)).length+1≤9223372036854775807:=by omega
   have e3: (n:Int).tmod 10=(n:Int) % 10:=Int.tmod_eq_emod_of_nonneg (by omega);rw[Wz (show n % 10 < 10 by omega)]at i2;simp[F.f271,F.f271C,e1,e2,e3,VR h,i1,i2,hl2]
theorem QiG (n:List UInt8) (s:Int) (bs:List (List AV)):call F.tb 272 [.str n,.int .i64 s] bs=some (.agg (Qa (.mk 1 n s [])),bs):=by
 rw[Qb F.tb_272 _ _ rfl];simp[F.f272,F.f272C,K5]
theorem Bh (i:Nat) (bs:List (List AV)) (h:i < 1000000000):call F.tb 270 [.int .i64 i] bs=some (.agg (Qa (Z5 i)),bs):=by
 have h1:=QiF i bs (by omega);have h4:=VS 9 i (by omega);have h3:1+ (YI i).length≤9223372036854775807:=by omega
 have h2:=QiG (119:: YI i) 0 bs;rw[Qb F.tb_270 _ _ rfl];simp[F.f270C,h1,h2,h3,Z5]
def hbs:Nat→List Tm→List (List AV)
 | _,[]=>[]
 | k,t:: ts=>(Qa (Z5 k)++ Qa t):: hbs (k+1) ts
theorem O1: ∀(l:List Tm) (k:Nat),(hbs k l).length=l.length
 | [],_=>rfl
 | t:: ts,k=>by simp[hbs,O1 ts]
theorem QdM: ∀(l:List Tm) (k:Nat),gpfreeE (hbs k l)=true
 | [],_=>rfl
 | t:: ts,k=>by simp[hbs,gpfreeE,QdM ts,Qg]
theorem BV: ∀(l:List Tm) (k:Nat) (x:Tm),hbs k (l ++ [x])=hbs k l ++ [Qa (Z5 (k+l.length))++ Qa x]
 | [],k,x=>by simp[hbs]
 | t:: ts,k,x=>by
  simp only[List.cons_append,hbs,BV ts,List.length_cons];rw[show k+1+ts.length=k+ (ts.length+1) by omega]
theorem BW: ∀{l:List Tm} {k i:Nat} {x:Tm},l[i]? =some x→(hbs k l)[i]? =some (Qa (Z5 (k+i))++ Qa x)
 | [],_,_,_,h=>by simp at h
 | t:: ts,k,0,x,h=>by simp at h;subst h;simp[hbs]
 | t:: ts,k,i+1,x,h=>by
  simp only[List.getElem?_cons_succ]at h;simp only[hbs,List.getElem?_cons_succ];rw[BW h,show k+1+i=k+ (i+1) by omega]
theorem EK (f:Fr) (hf:FOk f) (bs:List (List AV)):
  ∀(post pre:List Tm) (ρ:Nat→AV),f.t=pre ++ post→ρ 1= .bx (Qj f)→ρ 3= .sl true 8 (hbs 0 pre)→ρ 4= .int .i64 pre.length→
  R F.tb (.loop F.f269l0) ρ bs (Ql 0 (Qr F.tb F.f269r0 (Qt F.f269 bs)))=some (.sl false 8 (hbs 0 f.t),bs):=by
 have htl:=hf.tl;have hte:Qj f=[.sl false 4 (encTs f.s),.sl false 4 (encTs f.t)]:=rfl;intro post
 induction post with
 | nil=>
  intro pre ρ hk h1 h3 h4;simp only[List.append_nil]at hk;rw[← hk]at h3 h4;rw[Qc F.f269l0.eq_1];simp[h1,h3,h4,hte,F.f269r0,QdM]
 | cons x post IH=>
  intro pre ρ hk h1 h3 h4;have hg:=Qp hk;have hll:=Qx hk;have hw1:=wr1 pre.length (by omega);have hlt:=Qy hk;have hc:=Bh pre.length bs (by omega);have hb: (pre.length+1)*112≤140737488355328:=by clear hw1;omega
  have hi:=fun ρ=>IH (pre ++ [x]) ρ (by rw[hk];simp);simp only[BV,Nat.zero_add]at hi;rw[Qc F.f269l0.eq_1];simp[h1,h3,h4,hte,hg,hlt,hw1,hc,hb,O1];apply hi <;> simp[h1,hte]
theorem Bg (f:Fr) (hf:FOk f) (bs:List (List AV)):call F.tb 269 [.agg (Qj f)] bs=some (.sl false 8 (hbs 0 f.t),bs):=by
 have h:=fun ρ=>EK f hf bs f.t [] ρ rfl;rw[Qb F.tb_269 _ _ rfl];simp[F.f269C,QA,Qq,QG];apply h <;> simp[hbs]
def VF (x:Tm) (k:Nat) (l:List Tm):Tm:=match WX x k l with
 | some p=>p.2
 | none=>x
theorem QdG (x t:Tm) (k:Nat) (ts:List Tm):VF x k (t:: ts)=if Qm (Z5 k) x=0 then t else VF x (k+1) ts:=by
 simp only[VF,WX];by_cases c:Qm (Z5 k) x=0
 ·simp[c]
 ·simp[c]
theorem QeW (l:List Tm) (hl:l.length < 1000000) (x:Tm) (hx:x.mass < big) (bs:List (List AV)):
  ∀(post pre:List Tm) (o:Bool) (ρ:Nat→AV),l=pre ++ post→ρ 0= .sl o 8 (hbs 0 l)→ρ 3= .bx (Qa x)→ρ 4= .bx [.int .i64 0,.str [],.int .i64 0,.sl true 4 []]→ρ 5= .int .i64 pre.length→
  R F.tb (.loop F.f273l0) ρ bs (Ql 0 (Qr F.tb F.f273r0 (Qt F.f273 bs)))=some (.agg (Qa (VF x pre.length post)),bs):=by
 intro post
 induction post with
 | nil=>
  intro pre o ρ hk h0 h3 h4 h5;simp only[List.append_nil]at hk;rw[← hk]at h5;have e:VF x pre.length []=x:=rfl;rw[Qc F.f273l0.eq_1,e];simp[h0,h3,h4,h5,O1,F.f273r0]
 | cons y post IH=>
  intro pre o ρ hk h0 h3 h4 h5;have hg:=BW (k:=0) (Qp hk);simp only[Nat.zero_add]at hg;have hll:=Qx hk;have hw1:=wr1 pre.length (by omega);have hlt:=Qy hk;have hc:=Xa (Z5 pre.length) x bs (by have:=MI pre.length (by omega);unfold big;omega) hx;rw[Qc F.f273l0.eq_1,QdG];by_cases c:Qm (Z5 pre.length) x=0
  ·simp[h0,h3,h4,h5,hg,hlt,O1,hc,c]
  ·have hi:=fun ρ=>IH (pre ++ [y]) o ρ (by rw[hk];simp);simp only[List.length_append,List.length_singleton]at hi;simp[h0,h3,h4,h5,hg,hlt,hw1,O1,hc,c];apply hi <;> simp[h0,h3,h4]
theorem Bi (l:List Tm) (hl:l.length < 1000000) (x:Tm) (hx:x.mass < big) (o:Bool) (bs:List (List AV)):call F.tb 273 [.sl o 8 (hbs 0 l),.agg (Qa x)] bs=some (.agg (Qa (VF x 0 l)),bs):=by
 have h:=fun ρ=>QeW l hl x hx bs l [] false ρ rfl;simp only[List.length_nil]at h;rw[Qb F.tb_273 _ _ rfl];simp[F.f273C];apply h <;> simp
theorem Qe1 (f:List Tm) (t:Tm) (bs:List (List AV)) (hm:t.mass < 1000000) (ih: ∀x∈t.kids,∀(o:Bool) (bs:List (List AV)),call F.tb 274 [.sl o 8 (hbs 0 f),.agg (Qa x)] bs=some (.agg (Qa (Zv f x)),bs)):
  ∀(post pre us:List Tm) (o:Bool) (ρ:Nat→AV),t.kids=pre ++ post→us.length=pre.length→ρ 0= .sl o 8 (hbs 0 f)→ρ 3= .bx (Qa t)→ρ 4= .bx [.int .i64 0,.str [],.int .i64 0,.sl true 4 []]→
   ρ 5= .bx [.int .i64 t.kind,.str t.name,.int .i64 t.sort,.sl true 4 (encTs us)]→ρ 6= .int .i64 pre.length→
  R F.tb (.loop F.f274l0) ρ bs (Ql 0 (Qr F.tb F.f274r0 (Qt F.f274 bs)))=some (.agg (Qa (.mk t.kind t.name t.sort (us ++ putL f post))),bs):=by
 have hme:=Qo t;intro post
 induction post with
 | nil=>
  intro pre us o ρ hk hl h0 h3 h4 h5 h6;simp only[List.append_nil]at hk;rw[← hk]at h6;rw[Qc F.f274l0.eq_1];simp[h0,h3,h4,h5,h6,F.f274r0,putL];simp[Qa]
 | cons x post IH=>
  intro pre us o ρ hk hl h0 h3 h4 h5 h6;have hg2:=Qp hk;have hll:=Qx hk;have hw1:=wr1 pre.length (by omega);have hlt:=Qy hk;have hc:=fun o=>ih x (by rw[hk];simp) o bs;have hb: (us.length+1)*56≤140737488355328:=Yi (by omega);have hi:=fun ρ=>IH (pre ++ [x]) (us ++ [Zv f x]) o ρ (by rw[hk];simp) (by simp[hl]);have e:us ++ putL f (x:: post)=us ++ [Zv f x]++ putL f post:=by simp[putL]
  rw[Qc F.f274l0.eq_1,e];simp[h0,h3,h4,h5,h6,hg2,hlt,hw1,hc,hb,Q7,QP,-List.append_assoc];apply hi <;> simp[h0,h3,h4]
theorem QiH (f:List Tm) (hf:f.length < 1000000): ∀(r:Tm) (o:Bool) (bs:List (List AV)),r.mass < 1000000→call F.tb 274 [.sl o 8 (hbs 0 f),.agg (Qa r)] bs=some (.agg (Qa (Zv f r)),bs):=by
 refine Zp (P:=fun r=>∀(o:Bool) (bs:List (List AV)),r.mass < 1000000→call F.tb 274 [.sl o 8 (hbs 0 f),.agg (Qa r)] bs=some (.agg (Qa (Zv f r)),bs)) ?_;intro k n s ks ih o bs hm;have hme:=Qo (.mk k n s ks);simp only[QN,Q5]at hme;rw[Qb F.tb_274 _ _ rfl];by_cases k1:k=1
 ·subst k1;have h1:=fun o=>Bi f hf (.mk 1 n s ks) (by unfold big;omega) o bs;have e:Zv f (.mk 1 n s ks)=VF (.mk 1 n s ks) 0 f:=by simp only[Zv,VF,if_true] <;> cases WX (Tm.mk 1 n s ks) 0 f <;> rfl
  rw[e];simp[F.f274C,h1]
 ·have hl:=fun ρ=>Qe1 f (.mk k n s ks) bs hm (fun x hx o bs=>ih x hx o bs (by have h1:x.mass≤massL ks:=QD hx;omega)) ks [] [] false ρ rfl rfl;have e:Zv f (.mk k n s ks)= .mk k n s ([]++ putL f ks):=by simp[Zv,k1]
  rw[e];simp only[Q5,QN,YJ,Wu]at hl;simp[F.f274C,k1,Qg];apply hl <;> simp[encTs,Qg]
theorem QgH:YA.all (fun y=>(y.k == 2) == Xo y.n)=true:=by decide
theorem Qoi (n:List UInt8):decide (WT n=2)=Xo n:=by
 unfold WT;cases h:Zs n YA with
 | none=>
  simp only;cases hp:Xo n
  ·rfl
  ·exfalso;simp only[Xo,Bool.or_eq_true,beq_iff_eq]at hp;rcases hp with(rfl | rfl) | rfl <;> revert h <;> decide
 | some y=>
  obtain⟨h1,h2⟩:=R2 h;have h3:=List.all_eq_true.1 QgH y h1;simp only[beq_iff_eq]at h3;rw[← h2,← h3];simp only;by_cases c:y.k=2
  ·simp[c]
  ·simp[c]
def Ri (f a:List Tm) (x:Tm):Int:=if x.kind=3 then(if Xo x.name then 10 else 0)else if x.kind=1 then(if Qm (VF x 0 f) x=0 then 13 else 0)else if ZK x then 0 else if ZZ a x then 0 else 13
def frR (f a:List Tm):List Tm→Int
 | []=>0
 | x:: xs=>if Ri f a x≠0 then Ri f a x else frR f a xs
theorem QdH {f:List Tm} {x:Tm} {M:Nat} (hf: ∀y∈f,y.mass < M) (hx:x.mass < M): (VF x 0 f).mass < M:=by
 unfold VF;split
 ·rename_i p hp;exact hf p.2 (Rd hp)
 ·exact hx
theorem Av (f a l:List Tm) (bs:List (List AV)) (hf:f.length < 1000000) (hfm: ∀x∈f,x.mass < 1000000) (ha:a.length < 1000000) (ham: ∀x∈a,x.mass < 1000000) (hl:l.length < 1000000) (hm: ∀x∈l,x.mass < 1000000):
  ∀(post pre:List Tm) (o1 o2 o3:Bool) (ρ:Nat→AV),l=pre ++ post→ρ 7= .sl o1 4 (encTs l)→ρ 8= .sl o2 4 (encTs a)→ρ 9= .sl o3 8 (hbs 0 f)→ρ 10= .int .i64 pre.length→
  R F.tb (.loop F.f268l0) ρ bs (Ql 0 (Qr F.tb F.f268r0 (Qt F.f268 bs)))=some (.int .i64 (frR f a post),bs):=by
 intro post
 induction post with
 | nil=>
  intro pre o1 o2 o3 ρ hk h7 h8 h9 h10;simp only[List.append_nil]at hk;rw[← hk]at h10;rw[Qc F.f268l0.eq_1];simp[h7,h8,h9,h10,F.f268r0,frR]
 | cons x post IH=>
  intro pre o1 o2 o3 ρ hk h7 h8 h9 h10;have hg:=Qp hk;have hll:=Qx hk;have hw1:=wr1 pre.length (by omega);have hlt:=Qy hk;have hxm:=hm x (by rw[hk];simp);have hxb:x.mass < big:=by unfold big;omega
  have hc1:=SS x.name bs;have hc2:=fun o=>Bi f hf x hxb o bs;have hc3:=Xa (VF x 0 f) x bs (by have:=QdH hfm hxm;unfold big;omega) hxb;have hc4:=OS x bs hxm;have hc5:=fun o=>S6 a x o bs (by omega) (fun y hy=>by have:=ham y hy;unfold big;omega) hxb;have hp:=Qoi x.name;have h2:=fun ρ=>IH (pre ++ [x]) o1 o2 o3 ρ (by rw[hk];simp);rw[Qc F.f268l0.eq_1];by_cases k3:x.kind=3
  ·cases c:Xo x.name
   ·rw[c]at hp;have e:frR f a (x:: post)=frR f a post:=by simp[frR,Ri,k3,c]
    rw[e];simp at hp;simp[h7,h8,h9,h10,hg,hlt,hw1,k3,hc1,hp];apply h2 <;> simp[h7,h8,h9]
   ·rw[c]at hp;have e:frR f a (x:: post)=10:=by simp[frR,Ri,k3,c]
    rw[e];simp at hp;simp[h7,h8,h9,h10,hg,hlt,k3,hc1,hp]
  ·by_cases k1:x.kind=1
   ·by_cases c:Qm (VF x 0 f) x=0
    ·have e:frR f a (x:: post)=13:=by simp[frR,Ri,k1,c]
     rw[e];simp[h7,h8,h9,h10,hg,hlt,k1,hc2,hc3,c]
    ·have e:frR f a (x:: post)=frR f a post:=by simp[frR,Ri,k1,c]
     rw[e];simp[h7,h8,h9,h10,hg,hlt,hw1,k1,hc2,hc3,c];apply h2 <;> simp[h7,h8,h9]
   ·cases c:ZK x
    ·cases d:ZZ a x
     ·have e:frR f a (x:: post)=13:=by simp[frR,Ri,k3,k1,c,d]
      rw[e];simp[h7,h8,h9,h10,hg,hlt,k3,k1,hc4,hc5,c,d]
     ·have e:frR f a (x:: post)=frR f a post:=by simp[frR,Ri,k3,k1,c,d]
      rw[e];simp[h7,h8,h9,h10,hg,hlt,hw1,k3,k1,hc4,hc5,c,d];apply h2 <;> simp[h7,h8,h9]
    ·have e:frR f a (x:: post)=frR f a post:=by simp[frR,Ri,k3,k1,c]
     rw[e];simp[h7,h8,h9,h10,hg,hlt,hw1,k3,k1,hc4,c];apply h2 <;> simp[h7,h8,h9]
mutual
theorem Mx: ∀t:Tm,ZI t=0→∀x∈QY t,Xd x=0
 | .mk k n s ks,h,x,hx=>by
  simp only[ZI]at h;by_cases c:Xd (.mk k n s ks)=0
  ·rw[if_neg (by simpa using c)]at h;simp only[QY]at hx;rcases List.mem_cons.1 hx with rfl | hx
   ·exact c
   ·exact err_nodesL ks h x hx
  ·rw[if_pos c]at h;exact absurd h c
theorem err_nodesL: ∀l:List Tm,errL l=0→∀x∈allL l,Xd x=0
 | [],_,x,hx=>by simp[allL]at hx
 | t:: ts,h,x,hx=>by
  simp only[errL]at h;by_cases c:ZI t=0
  ·rw[if_neg (by simpa using c)]at h;simp only[allL,List.mem_append]at hx;rcases hx with hx | hx
   ·exact Mx t c x hx
   ·exact err_nodesL ts h x hx
  ·rw[if_pos c]at h;exact absurd h c
end
theorem Qd1 {x:Tm} (h:Xd x=0):x.kind=1∨x.kind=2∨x.kind=3:=by
 unfold Xd at h;by_cases c:x.kind=1∨x.kind=2
 ·rcases c with c | c <;> simp[c]
 ·rw[if_neg c]at h;by_cases d:x.kind=3
  ·simp[d]
  ·rw[if_neg d]at h;exact absurd h (by decide)
theorem NN: ∀{l:List Tm},WS l=0→∀x∈l,Y7 x=0
 | [],_,x,hx=>by cases hx
 | y:: l,h,x,hx=>by
  simp only[WS]at h;by_cases c:Y7 y=0
  ·rw[if_neg (by simpa using c)]at h;rcases List.mem_cons.1 hx with rfl | hx
   ·exact c
   ·exact NN h x hx
  ·rw[if_pos c]at h;exact absurd h c
theorem Md (t:Tm):t∈QY t:=by cases t;simp[QY]
theorem D3 {x:Tm} (h:Y7 x=0):x.kind≠1:=by
 intro hk;unfold Y7 at h;by_cases c:thV x=0
 ·rw[if_neg (by simpa using c)]at h;by_cases d:Uj x=[]
  ·unfold Uj at d;have h1:x∈(QY x).filter (Yl 1):=List.mem_filter.2 ⟨Md x,by simp[Yl,hk]⟩;have h2:x∈YM ((QY x).filter (Yl 1)):=VJ.2 h1;rw[d]at h2;cases h2
  ·rw[if_pos d]at h;exact absurd h (by decide)
 ·rw[if_pos c]at h;exact absurd h c
theorem Qna {f a:List Tm} {x:Tm} (hg: ∀y∈f,y.kind≠1) (hk:x.kind=1∨x.kind=2∨x.kind=3):Ri f a x=YE f a x:=by
 unfold Ri YE;rcases hk with hk | hk | hk
 ·simp only[hk];have h0: ¬(1:Int)=3:=by decide
  rw[if_neg h0,if_pos trivial,if_pos trivial];cases h:WX x 0 f with
  | none=>
   have h1:ixT x 0 f= -1:=by simp[ixT,h]
   have h2:VF x 0 f=x:=by simp[VF,h]
   rw[h1,h2,Yn];rfl
  | some p=>
   have h1:ixT x 0 f=p.1:=by simp[ixT,h]
   have h2:VF x 0 f=p.2:=by simp[VF,h]
   have h3: ¬Qm p.2 x=0:=fun e=>hg p.2 (Rd h) (by rw[Nm.1 e];exact hk);have h4: ¬(p.1:Int) < 0:=by omega
   rw[h1,h2,if_neg h3,if_neg h4]
 ·simp only[hk];rfl
 ·simp only[hk];rfl
theorem Qg9 {f a:List Tm} (hg: ∀y∈f,y.kind≠1): ∀{l:List Tm},(∀x∈l,Xd x=0)→frR f a l=frE f a l
 | [],_=>rfl
 | x:: l,h=>by
  simp only[frR,frE,Qna hg (Qd1 (h x (by simp))),Qg9 hg (l:=l) fun y hy=>h y (by simp[hy])]
theorem V1 {t:Tm} (h:thV t=0):ZI t=0:=(YX (Zj h).1).1
theorem QiE (f:Fr) (hf:FOk f) (hM:massL f.t < 1000000) (r:Tm) (hr:r.mass < 1000000) (bs:List (List AV)):call F.tb 268 [.agg (Qj f),.agg (Qa r)] bs=some (.int .i64 (Vt f r),bs):=by
 have h1:=Ll f bs hf;have h2:=VC r bs (by unfold big;omega);have h3:=Lm f hf hM bs;have h5:=Bg f hf bs;have h6:=U8 r bs (by omega);have hn:=nodesL_le_mass f.t;have hfl:=WE f;have hnl:=Wd r;have hnm:=Zm r;rw[Qb F.tb_268 _ _ rfl];unfold Vt;by_cases c1:QI f=0
 ·by_cases c2:thV r=0
  ·have h4:=fun ρ o1 o2 o3=>Av f.t (Q0 f) (QY r) bs hf.tl hf.t (by omega) (Ve hM) (by omega) (fun x hx=>by have:=X4 r x hx;omega) (QY r) [] o1 o2 o3 ρ rfl;have hgr: ∀y∈f.t,y.kind≠1:=fun y hy=>by
    have h0:=c1;unfold QI at h0;split at h0
    ·exact absurd h0 (by decide)
    ·split at h0
     ·rename_i h;exact absurd h0 h
     ·exact D3 (NN h0 y hy)
   rw[Qg9 hgr (Mx r (V1 c2))]at h4;simp[F.f268C,QA,Qq,QG,h1,h2,h3,h5,h6,c1,c2];apply h4 <;> first | rfl | simp
  ·simp[F.f268C,QA,Qq,QG,h1,h2,c1,c2]
 ·simp[F.f268C,QA,Qq,QG,h1,c1]
theorem Qdf (l:List Tm) (bs:List (List AV)) (hl:l.length < 1000000):
  ∀(post pre:List Tm) (o:Bool) (ρ:Nat→AV),l=pre ++ post→ρ 3= .sl o 4 (encTs l)→ρ 4= .int .i64 pre.length→
  R F.tb (.loop F.f275l0) ρ bs (Ql 0 (Qr F.tb F.f275r0 (Qt F.f275 bs)))=some (.bool (!post.all ndN),bs):=by
 intro post
 induction post with
 | nil=>
  intro pre o ρ hk h3 h4;simp only[List.append_nil]at hk;rw[← hk]at h4;rw[Qc F.f275l0.eq_1];simp[h3,h4,F.f275r0]
 | cons x post IH=>
  intro pre o ρ hk h3 h4;have hg:=Qp hk;have hll:=Qx hk;have hw1:=wr1 pre.length (by omega);have hlt:=Qy hk;have hc1:=SS x.name bs;have hp:=LC x.name;have h2:=fun ρ=>IH (pre ++ [x]) o ρ (by rw[hk];simp);rw[Qc F.f275l0.eq_1];by_cases k3:x.kind=3
  ·cases c:Yw x.name
   ·rw[c]at hp;have e: (x:: post).all ndN=post.all ndN:=by simp[ndN,k3,c]
    rw[e];simp at hp;simp[h3,h4,hg,hlt,hw1,k3,hc1,hp,-List.all_eq_true,-List.all_eq_false];apply h2 <;> simp[h3]
   ·rw[c]at hp;have e: (x:: post).all ndN=false:=by simp[ndN,k3,c]
    rw[e];simp at hp;simp[h3,h4,hg,hlt,k3,hc1,hp]
  ·have e: (x:: post).all ndN=post.all ndN:=by simp[ndN,k3]
   rw[e];simp[h3,h4,hg,hlt,hw1,k3,-List.all_eq_true,-List.all_eq_false];apply h2 <;> simp[h3]
theorem QiI (t:Tm) (bs:List (List AV)) (hm:t.mass < 1000000):call F.tb 275 [.agg (Qa t)] bs=some (.bool (!evT t),bs):=by
 have h1:=U8 t bs (by omega);have hnl:=Wd t;have hnm:=Zm t;have h2:=fun ρ o=>Qdf (QY t) bs (by omega) (QY t) [] o ρ rfl;rw[Qb F.tb_275 _ _ rfl,Lv];simp[F.f275C,h1,-List.all_eq_true,-List.all_eq_false];apply h2 <;> first | rfl | simp
theorem Im (f:Fr) (hf:FOk f) (hM:massL f.t < 1000000) (r:Tm) (hr:r.mass < 1000000) (bs:List (List AV)):call F.tb 267 [.agg (Qj f),.agg (Qa r)] bs=some (QS (Zf f r),bs):=by
 have h1:=QiE f hf hM r hr bs;rw[Qb F.tb_267 _ _ rfl];by_cases c1:Vt f r=0
 ·obtain⟨v1,v2,v3,v4⟩:=IO c1;have h0:=Bg f hf bs;have h2:=fun o=>QiH f.t hf.tl r o bs hr;obtain⟨t1,t2,t3,t4,t5⟩:=Zj v2;have hpm:=Kw (f:=f.t) (M:=1000000) (fun x hx=>by have:=hf.t x hx;omega) r;have h3:=Be (Zv f.t r) bs (by have:1000000*r.nodes≤1000000*400:=Nat.mul_le_mul_left _ t5;unfold big;omega);have hnm:=UV (Zv f.t r);have h4:=QiI (Zg (Zv f.t r)).1 bs (by omega);simp only[QS]at h3;by_cases c2: (Zg (Zv f.t r)).2=0
  ·cases c3:evT (Zg (Zv f.t r)).1
   ·have e:Zf f r=(Qw,11):=by simp[Zf,c1,c2,c3]
    rw[e];simp[F.f267C,QA,Qq,QG,h0,h1,h2,h3,h4,c1,c2,c3,QM,QE]
   ·have e:Zf f r=((Zg (Zv f.t r)).1,0):=by simp[Zf,c1,c2,c3]
    rw[e];simp[F.f267C,QA,Qq,QG,h0,h1,h2,h3,h4,c1,c2,c3,QM]
  ·have e:Zf f r=(Qw,(Zg (Zv f.t r)).2):=by simp[Zf,c1,c2]
   rw[e];simp[F.f267C,QA,Qq,QG,h0,h1,h2,h3,c1,c2,QM,QE]
 ·have e:Zf f r=(Qw,Vt f r):=by simp[Zf,c1]
  rw[e];simp[F.f267C,QA,Qq,QG,h1,c1,QM,QE]
theorem RV (f:Fr) (r:Tm): (Zf f r).1.mass≤13200:=by
 have h:=UV (Zv f.t r);have hz:=W4;unfold Zf;split
 ·simp only;omega
 ·split
  ·simp only;omega
  ·split
   ·exact h
   ·simp only;omega
def Ul (n:List UInt8):Bool:=n == XOR || n == Zy || n == EXP || n == MUL || n == INV || n == ONE
def Yq (n:List UInt8):Bool:= !Ul n && !Yw n
def evG (p:List UInt8→Bool) (t:Tm):Bool:=(QY t).all fun x=> !decide (x.kind=3) || p x.name
def Nu (p:List UInt8→Bool) (ts:List Tm):Bool:=(allL ts).all fun x=> !decide (x.kind=3) || p x.name
theorem Rb (p:List UInt8→Bool) (k:Int) (n:List UInt8) (s:Int) (ks:List Tm):evG p (.mk k n s ks)=((!decide (k=3) || p n) && Nu p ks):=by
 simp only[evG,Nu,QY,List.all_cons];rfl
theorem My (p:List UInt8→Bool) (t:Tm) (ts:List Tm):Nu p (t:: ts)=(evG p t && Nu p ts):=by simp[evG,Nu,allL,List.all_append]
theorem DZ (g:Nat) (p:List UInt8→Bool) (t:Tm) (bs:List (List AV)) (hm:t.mass < big) (ih: ∀x∈t.kids,∀bs,call F.tb 207 [.agg (Qa x),.fn g []] bs=some (.bool (evG p x),bs)):
  ∀(post pre:List Tm) (ρ:Nat→AV),t.kids=pre ++ post→ρ 1= .fn g []→ρ 18= .sl false 4 (encTs t.kids)→ρ 19= .int .i64 t.kids.length→ρ 20= .int .i64 pre.length→
  R F.tb (.loop F.f207l0) ρ bs (Ql 0 (Qr F.tb F.f207r0 (Qt F.f207 bs)))=some (.bool (Nu p post),bs):=by
 have hm2:=Qo t;unfold big at hm;intro post
 induction post with
 | nil=>
  intro pre ρ hk h1 h18 h19 h20;simp only[List.append_nil]at hk;rw[← hk]at h20;have e:Nu p []=true:=rfl;rw[Qc F.f207l0.eq_1,e];simp[h1,h18,h19,h20,F.f207r0]
 | cons x post IH=>
  intro pre ρ hk h1 h18 h19 h20;have hg:=Qp hk;have hll:=Qx hk;have hw1:=wr1 pre.length (by omega);have hlt:=Qy hk;have hc:=ih x (by rw[hk];simp) bs;rw[Qc F.f207l0.eq_1,My];cases hb:evG p x
  ·simp[h1,h18,h19,h20,hg,hlt,hc,hb]
  ·have h2:=fun ρ=>IH (pre ++ [x]) ρ (by rw[hk];simp);simp[h1,h18,h19,h20,hg,hlt,hw1,hc,hb];apply h2 <;> simp[h1,h18,h19]
theorem Qfd (g:Nat) (p:List UInt8→Bool) (hp: ∀n bs,call F.tb g [.str n] bs=some (.bool (p n),bs)): ∀(t:Tm) (bs:List (List AV)),t.mass < big→call F.tb 207 [.agg (Qa t),.fn g []] bs=some (.bool (evG p t),bs):=by
 refine Zp ?_;intro k n s ks ih bs hm;have hl:=fun ρ=>DZ g p (.mk k n s ks) bs hm (fun x hx bs=>ih x hx bs (by have h1:x.mass≤massL ks:=QD hx;have:=Qo (.mk k n s ks);simp only[QN]at this;omega)) ks [] ρ rfl;have h2:=hp n bs;simp only[QN]at hl;rw[Qb F.tb_207 _ _ rfl,Rb];by_cases hk:k=3
 ·cases hd:p n
  ·simp[F.f207C,hk,hd,h2]
  ·simp[F.f207C,hk,hd,h2];apply hl <;> simp
 ·simp[F.f207C,hk];apply hl <;> simp
theorem QiN (n:List UInt8) (bs:List (List AV)):call F.tb 405 [.str n] bs=some (.bool (Yq n),bs):=by
 have h1:=Y8 n bs;have hk:=LC n;have h2: ∃v0 v1 v2,(match Zs n YA with | some s=>Wf s | none=>[AV.str [],.int .i64 0,.int .i64 0,.int .i64 0])=[v0,v1,v2,.int .i64 (WT n)]∧v0.strip=v0∧v1.strip=v1∧v2.strip=v2:=by
  unfold WT;cases Zs n YA with
  | none=>exact⟨_,_,_,rfl,rfl,rfl,rfl⟩
  | some y=>exact⟨_,_,_,rfl,rfl,rfl,rfl⟩
 obtain⟨v0,v1,v2,h2,s0,s1,s2⟩:=h2;have h1:=h1.trans (congrArg (fun z=>some (AV.agg z,bs)) h2);have key: ∀ρ:Nat→AV,Ul n=false→Yq n= !decide (WT n=3):=fun _ h=>by simp[Yq,h,hk]
 rw[Qb F.tb_405 _ _ rfl];by_cases c1:n=XOR
 ·simp[F.f405C,Yq,Ul,XOR,c1]
 by_cases c2:n=Zy
 ·simp[F.f405C,Yq,Ul,Zy,c2]
 by_cases c3:n=EXP
 ·simp[F.f405C,Yq,Ul,EXP,c3]
 by_cases c4:n=MUL
 ·simp[F.f405C,Yq,Ul,MUL,c4]
 by_cases c5:n=INV
 ·simp[F.f405C,Yq,Ul,INV,c5]
 by_cases c6:n=ONE
 ·simp[F.f405C,Yq,Ul,ONE,c6]
 have ha:Ul n=false:=by simp[Ul,c1,c2,c3,c4,c5,c6]
 rw[key (fun _=> .undef) ha];simp only[XOR,Zy,EXP,MUL,INV,ONE]at c1 c2 c3 c4 c5 c6;have f1:=beq_eq_false_iff_ne.2 c1;have f2:=beq_eq_false_iff_ne.2 c2;have f3:=beq_eq_false_iff_ne.2 c3;have f4:=beq_eq_false_iff_ne.2 c4;have f5:=beq_eq_false_iff_ne.2 c5;have f6:=beq_eq_false_iff_ne.2 c6;simp[F.f405C,c1,c2,c3,c4,c5,c6,f1,f2,f3,f4,f5,f6,h1,s0,s1,s2]
def Xb (t:Tm):Bool:=decide (thV t=0) && evG Yq t
theorem QiM (t:Tm) (bs:List (List AV)) (hm:t.mass < big):call F.tb 404 [.agg (Qa t)] bs=some (.bool (Xb t),bs):=by
 have h1:=VD t bs hm;have h2:=Qfd 405 Yq QiN t bs hm;rw[Qb F.tb_404 _ _ rfl];by_cases c:thV t=0
 ·simp[F.f404C,h1,h2,c,Xb]
 ·simp[F.f404C,h1,c,Xb]
theorem Bj (t:Tm) (bs:List (List AV)) (hm:t.mass < big):call F.tb 403 [.agg (Qa t)] bs=some (.bool (!Xb t),bs):=by
 have h1:=QiM t bs hm;rw[Qb F.tb_403 _ _ rfl];simp[F.f403C,h1]
def Yv (f:Fr):Int:=if QI f≠0 then QI f else if f.t.any (fun t=> !Xb t)then 10 else 0
theorem Iq (f:Fr) (hf:FOk f) (bs:List (List AV)):call F.tb 412 [.agg (Qj f)] bs=some (.int .i64 (Yv f),bs):=by
 have h1:=OQ f bs hf;have h2:=fun o=>W9 f.t 403 [] (fun t=> !Xb t) o bs hf.tl (by simp) (fun x hx=>Bj x bs (by have:=hf.t x hx;unfold big;omega));have hte:Qj f=[.sl false 4 (encTs f.s),.sl false 4 (encTs f.t)]:=rfl;rw[hte]at h1 ⊢;rw[Qb F.tb_412 _ _ rfl];unfold Yv;generalize f.t.any (fun t=> !Xb t)=B at *;by_cases c:QI f=0
 ·cases B
  ·simp[F.f412C,h1,h2,c]
  ·simp[F.f412C,h1,h2,c]
 ·simp[F.f412C,h1,c]
theorem Is (n:List UInt8) (bs:List (List AV)):call F.tb 442 [.str n] bs=some (.bool (Ul n),bs):=by
 rw[Qb F.tb_442 _ _ rfl];have e: ∀m:List UInt8,(n == m)=decide (n=m):=fun m=>by by_cases h:n=m <;> simp[h]
 have ea:Ul n=(decide (n=[120,111,114]) || decide (n=[122,101,114,111]) || decide (n=[101,120,112]) || decide (n=[109,117,108]) || decide (n=[105,110,118]) || decide (n=[111,110,101])):=by
  simp only[Ul,XOR,Zy,EXP,MUL,INV,ONE,e]
 rw[ea];by_cases c1:n=[120,111,114]
 ·simp[F.f442C,c1]
 by_cases c2:n=[122,101,114,111]
 ·simp[F.f442C,c2]
 by_cases c3:n=[101,120,112]
 ·simp[F.f442C,c3]
 by_cases c4:n=[109,117,108]
 ·simp[F.f442C,c4]
 by_cases c5:n=[105,110,118]
 ·simp[F.f442C,c5]
 by_cases c6:n=[111,110,101]
 ·simp[F.f442C,c6]
 have f1:=beq_eq_false_iff_ne.2 c1;have f2:=beq_eq_false_iff_ne.2 c2;have f3:=beq_eq_false_iff_ne.2 c3;have f4:=beq_eq_false_iff_ne.2 c4;have f5:=beq_eq_false_iff_ne.2 c5;have f6:=beq_eq_false_iff_ne.2 c6;simp[F.f442C,c1,c2,c3,c4,c5,c6,f1,f2,f3,f4,f5,f6]
theorem Qak (l:List Tm) (bs:List (List AV)) (hl:l.length < 1000000000):
  ∀(post pre:List Tm) (ρ:Nat→AV),l=pre ++ post→ρ 3= .sl false 4 (encTs l)→ρ 4= .int .i64 pre.length→
  R F.tb (.loop F.f441l0) ρ bs (Ql 0 (Qr F.tb F.f441r0 (Qt F.f441 bs)))=some (.bool (post.all fun x=> !decide (x.kind=3) || Yq x.name),bs):=by
 intro post
 induction post with
 | nil=>
  intro pre ρ hk h3 h4;simp only[List.append_nil]at hk;rw[← hk]at h4;rw[Qc F.f441l0.eq_1];simp[h3,h4,F.f441r0]
 | cons x post IH=>
  intro pre ρ hk h3 h4;have hg:=Qp hk;have hll:=Qx hk;have hw1:=wr1 pre.length (by omega);have hlt:=Qy hk;have h2:=fun ρ=>IH (pre ++ [x]) ρ (by rw[hk];simp);have hk3:=LC x.name;have ea: ((x:: post).all fun x=> !decide (x.kind=3) || Yq x.name)=((!decide (x.kind=3) || Yq x.name) && post.all fun x=> !decide (x.kind=3) || Yq x.name):=rfl;rw[Qc F.f441l0.eq_1,ea];generalize (post.all fun x=> !decide (x.kind=3) || Yq x.name)=V at *;by_cases c1:x.kind=3
  ·cases c2:Ul x.name
   ·by_cases c3:WT x.name=3
    ·have c4:Yq x.name=false:=by simp[Yq,c2,← hk3,c3]
     simp[h3,h4,hg,hlt,Qg,c1,c2,c3,c4,Is,SS]
    ·have c4:Yq x.name=true:=by simp[Yq,c2,← hk3,c3]
     simp[h3,h4,hg,hlt,hw1,Qg,c1,c2,c3,c4,Is,SS];apply h2 <;> simp[h3]
   ·have c4:Yq x.name=false:=by simp[Yq,c2]
    simp[h3,h4,hg,hlt,Qg,c1,c2,c4,Is]
  ·simp[h3,h4,hg,hlt,hw1,Qg,c1];apply h2 <;> simp[h3]
theorem Qi6 (t:Tm) (bs:List (List AV)) (hm:t.mass < 100000000):call F.tb 441 [.agg (Qa t)] bs=some (.bool (Xb t),bs):=by
 have h1:=VC t bs (by unfold big;omega);have h2:=U8 t bs hm;have hn:=Zm t;have hl:=fun ρ=>Qak (QY t) bs (by rw[Wd];omega) (QY t) [] ρ rfl;rw[Qb F.tb_441 _ _ rfl];unfold Xb evG;by_cases c:thV t=0
 ·simp[F.f441C,h1,h2,c];apply hl <;> simp
 ·simp[F.f441C,h1,c]
theorem D1 (f:Fr) (bs:List (List AV)) (hf:FOk f):
  ∀(post pre:List Tm) (ρ:Nat→AV),f.t=pre ++ post→ρ 1= .bx (Qj f)→ρ 4= .int .i64 pre.length→
  R F.tb (.loop F.f440l0) ρ bs (Ql 0 (Qr F.tb F.f440r0 (Qt F.f440 bs)))=some (.int .i64 (if post.any (fun t=> !Xb t)then 10 else 0),bs):=by
 have htl:=hf.tl;have hte:Qj f=[.sl false 4 (encTs f.s),.sl false 4 (encTs f.t)]:=rfl;intro post
 induction post with
 | nil=>
  intro pre ρ hk h1 h4;simp only[List.append_nil]at hk;rw[← hk]at h4;rw[Qc F.f440l0.eq_1];simp[h1,h4,hte,F.f440r0]
 | cons x post IH=>
  intro pre ρ hk h1 h4;have hg:=Qp hk;have hll:=Qx hk;have hw1:=wr1 pre.length (by omega);have hlt:=Qy hk;have hx:x.mass < 1000000:=hf.t x (by rw[hk];simp);have h2:=fun ρ=>IH (pre ++ [x]) ρ (by rw[hk];simp);have h3:=Qi6 x bs (by omega);rw[Qc F.f440l0.eq_1];cases c:Xb x
  ·rw[c]at h3;simp[h1,h4,hte,hg,hlt,h3,c]
  ·rw[c]at h3;simp[h1,h4,hte,hg,hlt,hw1,h3,c];simp only[Bool.not_eq_true',List.any_eq_true]at h2;apply h2 <;> simp[h1,hte]
theorem OV (f:Fr) (hf:FOk f) (bs:List (List AV)):call F.tb 440 [.agg (Qj f)] bs=some (.int .i64 (Yv f),bs):=by
 have h1:=Ll f bs hf;have hl:=fun ρ=>D1 f bs hf f.t [] ρ rfl;have hte:Qj f=[.sl false 4 (encTs f.s),.sl false 4 (encTs f.t)]:=rfl;rw[Qb F.tb_440 _ _ rfl];unfold Yv;generalize (if f.t.any (fun t=> !Xb t)then(10:Int)else 0)=V at *;rw[hte]at h1 hl ⊢;by_cases c:QI f=0
 ·simp[F.f440C,h1,c];apply hl <;> simp
 ·simp[F.f440C,h1,c]
def IB (f:Fr):Bool:=few f.s 45 120 && (few f.t 6 40 || (decide (40 < f.t.length) && few f.t 45 45))
theorem Bq (f:Fr) (bs:List (List AV)):call F.tb 444 [.agg (Qj f)] bs=some (.bool (IB f),bs):=by
 have h1: ∀o,call F.tb 101 [.sl o 4 (encTs f.s),.int .i64 45,.int .i64 120] bs=some (.bool (few f.s 45 120),bs):=fun o=>Nj f.s o 45 120 bs (by omega) (by omega) (by omega);have h2: ∀o,call F.tb 101 [.sl o 4 (encTs f.t),.int .i64 6,.int .i64 40] bs=some (.bool (few f.t 6 40),bs):=fun o=>Nj f.t o 6 40 bs (by omega) (by omega) (by omega);have h3: ∀o,call F.tb 101 [.sl o 4 (encTs f.t),.int .i64 45,.int .i64 45] bs=some (.bool (few f.t 45 45),bs):=fun o=>Nj f.t o 45 45 bs (by omega) (by omega) (by omega);have hte:Qj f=[.sl false 4 (encTs f.s),.sl false 4 (encTs f.t)]:=rfl;have e: ((40:Int) < (f.t.length:Int))↔40 < f.t.length:=by omega
 rw[Qb F.tb_444 _ _ rfl,hte];unfold IB;cases c1:few f.s 45 120
 ·rw[c1]at h1;simp[F.f444C,h1]
 ·rw[c1]at h1;cases c2:few f.t 6 40
  ·rw[c2]at h2;by_cases c3:40 < f.t.length
   ·have c3':=e.2 c3;cases c4:few f.t 45 45
    ·rw[c4]at h3;simp[F.f444C,h1,h2,h3,c3,c3']
    ·rw[c4]at h3;simp[F.f444C,h1,h2,h3,c3,c3']
   ·have c3': ¬(40:Int) < (f.t.length:Int):=fun h=>c3 (e.1 h);simp[F.f444C,h1,h2,c3,c3']
  ·rw[c2]at h2;simp[F.f444C,h1,h2]
theorem EA {f:Fr} (h:IB f=true):FOk f∧massL f.t < 1000000:=by
 simp only[IB,Bool.and_eq_true,Bool.or_eq_true]at h;obtain⟨a1,a2,_⟩:=Nv (by omega) h.1;have:massL f.t < 1000000∧f.t.length≤45:=by
  rcases h.2 with h | h
  ·obtain⟨b1,b2,_⟩:=Nv (by omega) h;omega
  ·obtain⟨b1,b2,_⟩:=Nv (by omega) h.2;omega
 exact⟨⟨fun x hx=>by have:=QD hx;omega,fun x hx=>by have:=QD hx;omega,by omega,by omega⟩,this.1⟩
structure Tst where
 l:Tm
 r:Tm
 f:Bool
def Zl (q:Tst):List AV:=Qa q.l ++ Qa q.r ++ [.bool q.f]
theorem ZM (q:Tst):Zl q=[.int .i64 q.l.kind,.str q.l.name,.int .i64 q.l.sort,.sl false 4 (encTs q.l.kids),.int .i64 q.r.kind,.str q.r.name,.int .i64 q.r.sort,.sl false 4 (encTs q.r.kids),.bool q.f]:=by
 simp[Zl,Qg]
def YZ (f:Fr) (l r:Tm) (q:Bool):Bool×Int:=
 if Yv f≠0 then(false,Yv f)else if(Zf f l).2≠0∧(Zf f l).2≠11 then(false,(Zf f l).2)else
 if q then(decide ((Zf f l).2=11),0)else if(Zf f r).2≠0∧(Zf f r).2≠11 then(false,(Zf f r).2)else
 (decide ((Zf f l).2=0) && decide ((Zf f r).2=0) && decide (Qm (Zf f l).1 (Zf f r).1=0),0)
theorem OT (t u:Tm) (bs:List (List AV)) (hm:t.mass < big) (hu:u.mass < big):call F.tb 410 [.agg (Qa t),.agg (Qa u)] bs=some (.bool (decide (Qm t u=0)),bs):=by
 have h1:=call_Compare t u bs hm hu;have e1:=Qg t;have e2:=Qg u;rw[Qb F.tb_410 _ _ rfl];simp only[e1,e2]at h1 ⊢;simp[F.f410C,h1]
theorem Qi1 (f:Fr) (hf:FOk f) (hM:massL f.t < 1000000) (q:Tst) (hl:q.l.mass < 1000000) (hr:q.r.mass < 1000000) (bs:List (List AV)):
  call F.tb 432 [.agg (Qj f),.agg (Zl q)] bs=some (.tup [.bool (YZ f q.l q.r q.f).1,.int .i64 (YZ f q.l q.r q.f).2],bs):=by
 have h0:=Iq f hf bs;have h1:=Ij f hf hM q.l hl bs;have h2:=Ij f hf hM q.r hr bs;have v1:=RV f q.l;have v2:=RV f q.r;have h3:=OT (Zf f q.l).1 (Zf f q.r).1 bs (by unfold big;omega) (by unfold big;omega);have e1:=Qg q.l;have e2:=Qg q.r;have e3:=Qg (Zf f q.l).1;have e4:=Qg (Zf f q.r).1;simp only[QS]at h1 h2;rw[ZM];simp only[e1]at h1;simp only[e2]at h2;simp only[e3]at h1 h3;simp only[e4]at h2 h3;rw[Qb F.tb_432 _ _ rfl];unfold YZ;by_cases c0: ¬Yv f=0
 ·simp[F.f432C,QA,Qq,QG,h0,c0]
 have c0:=Decidable.not_not.1 c0;have d1: (Zf f q.l).2=0∨(Zf f q.l).2=11∨((Zf f q.l).2≠0∧(Zf f q.l).2≠11):=by omega
 have d2: (Zf f q.r).2=0∨(Zf f q.r).2=11∨((Zf f q.r).2≠0∧(Zf f q.r).2≠11):=by omega
 rcases d1 with c1 | c1 | ⟨c1,c1'⟩
 ·cases c2:q.f
  ·rcases d2 with c3 | c3 | ⟨c3,c3'⟩
   ·simp[F.f432C,QA,Qq,QG,h0,h1,h2,h3,c0,c1,c2,c3]
   ·simp[F.f432C,QA,Qq,QG,h0,h1,h2,h3,c0,c1,c2,c3]
   ·simp[F.f432C,QA,Qq,QG,h0,h1,h2,h3,c0,c1,c2,c3,c3']
  ·simp[F.f432C,QA,Qq,QG,h0,h1,c0,c1,c2]
 ·cases c2:q.f
  ·rcases d2 with c3 | c3 | ⟨c3,c3'⟩
   ·simp[F.f432C,QA,Qq,QG,h0,h1,h2,h3,c0,c1,c2,c3]
   ·simp[F.f432C,QA,Qq,QG,h0,h1,h2,h3,c0,c1,c2,c3]
   ·simp[F.f432C,QA,Qq,QG,h0,h1,h2,h3,c0,c1,c2,c3,c3']
  ·simp[F.f432C,QA,Qq,QG,h0,h1,c0,c1,c2]
 ·simp[F.f432C,QA,Qq,QG,h0,h1,c0,c1,c1']
theorem It (f:Fr) (hf:FOk f) (hM:massL f.t < 1000000) (q:Tst) (hl:q.l.mass < 1000000) (hr:q.r.mass < 1000000) (bs:List (List AV)):
  call F.tb 443 [.agg (Qj f),.agg (Zl q)] bs=some (.tup [.bool (YZ f q.l q.r q.f).1,.int .i64 (YZ f q.l q.r q.f).2],bs):=by
 have h0:=OV f hf bs;have h1:=Im f hf hM q.l hl bs;have h2:=Im f hf hM q.r hr bs;have v1:=RV f q.l;have v2:=RV f q.r;have h3:=Xa (Zf f q.l).1 (Zf f q.r).1 bs (by unfold big;omega) (by unfold big;omega);have e1:=Qg q.l;have e2:=Qg q.r;have e3:=Qg (Zf f q.l).1;have e4:=Qg (Zf f q.r).1;simp only[QS]at h1 h2;rw[ZM];simp only[e1]at h1;simp only[e2]at h2;simp only[e3]at h1 h3;simp only[e4]at h2 h3;rw[Qb F.tb_443 _ _ rfl];unfold YZ;by_cases c0: ¬Yv f=0
 ·simp[F.f443C,QA,Qq,QG,h0,c0]
 have c0:=Decidable.not_not.1 c0;have d1: (Zf f q.l).2=0∨(Zf f q.l).2=11∨((Zf f q.l).2≠0∧(Zf f q.l).2≠11):=by omega
 have d2: (Zf f q.r).2=0∨(Zf f q.r).2=11∨((Zf f q.r).2≠0∧(Zf f q.r).2≠11):=by omega
 rcases d1 with c1 | c1 | ⟨c1,c1'⟩
 ·cases c2:q.f
  ·rcases d2 with c3 | c3 | ⟨c3,c3'⟩
   ·simp[F.f443C,QA,Qq,QG,h0,h1,h2,h3,c0,c1,c2,c3]
   ·simp[F.f443C,QA,Qq,QG,h0,h1,h2,h3,c0,c1,c2,c3]
   ·simp[F.f443C,QA,Qq,QG,h0,h1,h2,h3,c0,c1,c2,c3,c3']
  ·simp[F.f443C,QA,Qq,QG,h0,h1,c0,c1,c2]
 ·cases c2:q.f
  ·rcases d2 with c3 | c3 | ⟨c3,c3'⟩
   ·simp[F.f443C,QA,Qq,QG,h0,h1,h2,h3,c0,c1,c2,c3]
   ·simp[F.f443C,QA,Qq,QG,h0,h1,h2,h3,c0,c1,c2,c3]
   ·simp[F.f443C,QA,Qq,QG,h0,h1,h2,h3,c0,c1,c2,c3,c3']
  ·simp[F.f443C,QA,Qq,QG,h0,h1,c0,c1,c2]
 ·simp[F.f443C,QA,Qq,QG,h0,h1,c0,c1,c1']
theorem Yy {f:Fr} (h:QI f=0):f.t.length≤40:=by
 by_cases c:40 < f.t.length
 ·simp[QI,c]at h
 ·omega
def VQ (f g:Fr):Int:=
 if QI f≠0 then QI f else if QI g≠0 then QI g else if f.t.any (fun t=> !Xb t) || g.t.any (fun t=> !Xb t)then 10 else if f.t.length≠g.t.length then 6 else 0
theorem QiL (f g:Fr) (hf:FOk f) (hg:FOk g) (bs:List (List AV)):call F.tb 402 [.agg (Qj f),.agg (Qj g)] bs=some (.int .i64 (VQ f g),bs):=by
 have h1:=OQ f bs hf;have h2:=OQ g bs hg;have hfl:=hf.tl;have hgl:=hg.tl;have h3:=fun o=>Tw [f.t,g.t] o bs (by simp) (by simp;omega);have h4:=fun(hl: (f.t ++ g.t).length < 1000000) o=>W9 (f.t ++ g.t) 403 [] (fun t=> !Xb t) o bs hl (by simp) (fun x hx=>Bj x bs (by
  rcases List.mem_append.1 hx with h | h
  ·have:=hf.t x h;unfold big;omega
  ·have:=hg.t x h;unfold big;omega))
 have hte:Qj f=[.sl false 4 (encTs f.s),.sl false 4 (encTs f.t)]:=rfl;have htg:Qj g=[.sl false 4 (encTs g.s),.sl false 4 (encTs g.t)]:=rfl;rw[hte]at h1 ⊢;rw[htg]at h2 ⊢;simp only[List.flatten_cons,List.flatten_nil,List.append_nil]at h3;have el: ((f.t.length:Int)=(g.t.length:Int))↔f.t.length=g.t.length:=by omega
 have e0: ((f.t ++ g.t).any fun t=> !Xb t)=(f.t.any (fun t=> !Xb t) || g.t.any (fun t=> !Xb t)):=by simp
 rw[e0]at h4;simp only[Uh,List.map_cons,List.map_nil]at h3;rw[Qb F.tb_402 _ _ rfl];unfold VQ;generalize (f.t.any (fun t=> !Xb t) || g.t.any (fun t=> !Xb t))=B at *;have w1:IntKind.i64.wrap 1=1:=rfl;have w2:IntKind.i64.wrap 2=2:=rfl;simp[F.f402C];rw[Qc F.f402l0.eq_1];by_cases c1: ¬QI f=0
 ·simp[h1,c1,w1,w2]
 have c1:=Decidable.not_not.1 c1;simp[h1,c1,w1,w2];rw[Qc F.f402l0.eq_1];by_cases c2: ¬QI g=0
 ·simp[h2,c2,w1,w2]
 have c2:=Decidable.not_not.1 c2;simp[h2,c2,w1,w2];have hl1:=Yy c1;have hl2:=Yy c2;have h4:=h4 (by simp;omega);rw[Qc F.f402l0.eq_1];cases B
 ·by_cases c3:f.t.length=g.t.length
  ·have c3':=el.2 c3;simp[h3,h4,c3,c3',w1,w2,F.f402r0]
  ·have c3': ¬(f.t.length:Int)=(g.t.length:Int):=fun h=>c3 (el.1 h);simp[h3,h4,c3,c3',w1,w2,F.f402r0]
 ·simp[h3,h4,w1,w2,F.f402r0]
theorem Bp (f g:Fr) (hf:FOk f) (hg:FOk g) (bs:List (List AV)):call F.tb 439 [.agg (Qj f),.agg (Qj g)] bs=some (.int .i64 (VQ f g),bs):=by
 have h1:=Ll f bs hf;have h2:=Ll g bs hg;have h3:=OV f hf bs;have h4:=OV g hg bs;have hte:Qj f=[.sl false 4 (encTs f.s),.sl false 4 (encTs f.t)]:=rfl;have htg:Qj g=[.sl false 4 (encTs g.s),.sl false 4 (encTs g.t)]:=rfl;have el: ((f.t.length:Int)=(g.t.length:Int))↔f.t.length=g.t.length:=by omega
 rw[hte]at h1 h3 ⊢;rw[htg]at h2 h4 ⊢;rw[Qb F.tb_439 _ _ rfl];unfold VQ;by_cases c1: ¬QI f=0
 ·simp[F.f439C,h1,c1]
 have c1:=Decidable.not_not.1 c1;by_cases c2: ¬QI g=0
 ·simp[F.f439C,h1,h2,c1,c2]
 have c2:=Decidable.not_not.1 c2;simp only[Yv,c1,c2,ne_eq,not_true_eq_false,if_false]at h3 h4;simp only[c1,c2,ne_eq,not_true_eq_false,if_false];generalize f.t.any (fun t=> !Xb t)=A at *;generalize g.t.any (fun t=> !Xb t)=B at *;cases A
 ·cases B
  ·by_cases c3:f.t.length=g.t.length
   ·have c3':=el.2 c3;simp[F.f439C,h1,h2,h3,h4,c1,c2,c3,c3']
   ·have c3': ¬(f.t.length:Int)=(g.t.length:Int):=fun h=>c3 (el.1 h);simp[F.f439C,h1,h2,h3,h4,c1,c2,c3,c3']
  ·simp[F.f439C,h1,h2,h3,h4,c1,c2]
 ·simp[F.f439C,h1,h2,h3,h4,c1,c2]
def Ix (f g:Fr) (q:Tst):Bool:=
 decide (VQ f g=0) && (decide ((YZ f q.l q.r q.f).2=0) && decide ((YZ g q.l q.r q.f).2=0) && ((YZ f q.l q.r q.f).1 != (YZ g q.l q.r q.f).1))
theorem Bo (f g:Fr) (hf:FOk f) (hg:FOk g) (hM:massL f.t < 1000000) (hN:massL g.t < 1000000) (q:Tst) (hl:q.l.mass < 1000000) (hr:q.r.mass < 1000000) (bs:List (List AV)):
  call F.tb 438 [.agg (Qj f),.agg (Qj g),.agg (Zl q)] bs=some (.bool (Ix f g q),bs):=by
 have h0:=Bp f g hf hg bs;have h1:=It f hf hM q hl hr bs;have h2:=It g hg hN q hl hr bs;rw[Qb F.tb_438 _ _ rfl];unfold Ix;by_cases c0: ¬VQ f g=0
 ·rw[ZM];simp[F.f438C,QA,Qq,QG,h0,c0]
 have c0:=Decidable.not_not.1 c0;generalize YZ f q.l q.r q.f=V at *;generalize YZ g q.l q.r q.f=W at *;obtain⟨v1,v2⟩:=V;obtain⟨w1,w2⟩:=W;rw[ZM]at h1 h2 ⊢;by_cases c1:v2=0
 ·by_cases c2:w2=0
  ·simp[F.f438C,QA,Qq,QG,h0,h1,h2,c0,c1,c2];cases v1 <;> cases w1 <;> rfl
  ·simp[F.f438C,QA,Qq,QG,h0,h1,h2,c0,c1,c2]
 ·simp[F.f438C,QA,Qq,QG,h0,h1,h2,c0,c1]
theorem UA {f:Fr} {x:Tm}:x∈Q0 f↔x∈allL f.t∧x.kind=2∧H5 f.s x:=by
 unfold Q0;rw[X7,RO];simp
theorem VB {x:Tm}: ∀{l:List Tm},x∈allL l↔∃t∈l,x∈QY t
 | []=>by simp[allL]
 | t:: ts=>by simp[allL,VB (l:=ts)]
end Go.Am
