/-
  Sc6, Sc7, Sc8, Sc9, Sc10, Sc11.
-/
import Derived.Test.YtpgbndmkiiakaaaGreatDoorG22
set_option linter.unusedVariables false
set_option linter.unusedSimpArgs false
namespace Go.Am
set_option maxRecDepth 8000
def Tf (l:List (List UInt8)):List (List AV):=l.map fun s=>[AV.str s]
theorem Qa6 (l:List (List UInt8)): (Tf l).length=l.length:=by simp[Tf]
theorem Qa5 {l:List (List UInt8)} {i:Nat} {s:List UInt8} (h:l[i]? =some s): (Tf l)[i]? =some [AV.str s]:=by simp[Tf,h]
theorem QdC (l:List (List UInt8)) (x:List UInt8) (bs:List (List AV)) (hl:l.length < 1000000):
  ∀(post pre:List (List UInt8)) (o:Bool) (ρ:Nat→AV),l=pre ++ post→pre.contains x=false→ρ 0= .sl o 1 (Tf l)→ρ 1= .str x→ρ 7= .int .i64 l.length→ρ 8= .int .i64 pre.length→
  U4 (l.contains x) bs (R F.tb (.loop F.f162l0) ρ bs (Qk 0 (Qv F.tb F.f162r0 (Qx F.f162 bs)))):=by
 intro post
 induction post with
 | nil=>
  intro pre o ρ hk hpp h0 h1 h7 h8
  simp only[List.append_nil]at hk
  rw[← hk]at h8 hpp
  rw[Qc F.f162l0.eq_1]
  refine⟨-1,?_,by rw[hpp];simp⟩
  simp[h0,h1,h7,h8,F.f162r0,F.f162R,F.f162K]
 | cons a post IH=>
  intro pre o ρ hk hpp h0 h1 h7 h8
  have hgt:=Qa5 (Qp hk)
  have hll:l.length=pre.length+ (post.length+1):=by rw[hk];simp
  have hw1:IntKind.i64.wrap ((pre.length:Int)+1)=(pre.length:Int)+1:=Ql (by omega) (by omega)
  have hlt: (pre.length:Int) < (l.length:Int):=by omega
  have ih:=fun ρ hpp=>IH (pre ++ [a]) o ρ (by rw[hk];simp) hpp
  rw[Qc F.f162l0.eq_1]
  by_cases ho:x=a
  ·have hany:l.contains x=true:=by rw[hk,ho];simp
   refine⟨pre.length,?_,by rw[hany];simp⟩
   simp[h0,h1,h7,h8,hlt,hgt,← ho,F.f162R,F.f162K]
  ·have hb: (x == a)=false:=by simpa using ho
   have ih2:=fun ρ=>ih ρ (by simp only[List.contains_eq_mem,decide_eq_false_iff_not,List.mem_append,List.mem_singleton]at hpp ⊢;exact fun h=>h.elim hpp ho)
   simp[h0,h1,h7,h8,hlt,hgt,hw1,hb,-List.contains_eq_mem]
   apply ih2 <;> simp[h0,h1,h7]
theorem QcQ (l:List (List UInt8)) (x:List UInt8) (o:Bool) (bs:List (List AV)) (hl:l.length < 1000000):call F.tb 161 [.sl o 1 (Tf l),.str x] bs=some (.bool (l.contains x),bs):=by
 have h1:=fun ρ=>QdC l x bs hl l [] false ρ rfl rfl
 have h2:U4 (l.contains x) bs (call F.tb 162 [.sl false 1 (Tf l),.str x] bs):=by
  rw[Qb F.tb_162 _ _ rfl]
  simp[F.f162B,F.f162C,-List.contains_eq_mem]
  apply h1 <;> simp[Qa6]
 obtain⟨i,hi,hb⟩:=h2
 rw[Qb F.tb_161 _ _ rfl]
 simp[F.f161B,F.f161C,hi,F.f161R,F.f161K,-List.contains_eq_mem]
 cases hx:l.contains x
 ·rw[hx]at hb;simp at hb;simpa using hb
 ·rw[hx]at hb;simp at hb;simpa using hb
def isN (t:Tm) (l:List (List UInt8)):Bool:=decide (t.kind=3) && l.contains t.name
theorem NV (t:Tm) (l:List (List UInt8)) (o:Bool) (bs:List (List AV)) (hl:l.length < 1000000):call F.tb 416 [.agg (Qa t),.sl o 1 (Tf l)] bs=some (.bool (isN t l),bs):=by
 have h:=QcQ l t.name false bs hl
 rw[Qb F.tb_416 _ _ rfl]
 unfold isN
 by_cases hk:t.kind=3 <;> simp[F.f416B,F.f416C,F.f416R,F.f416K,hk,h,-List.contains_eq_mem]
theorem DN (t:Tm) (n:List UInt8):isN t [n]=isB t n:=by
 unfold isN isB
 congr 1
 simp only[List.contains_cons,List.contains_nil,Bool.or_false]
theorem T4 (n:List UInt8) (ks:List Tm) (o:Bool) (bs:List (List AV)):call F.tb 417 [.str n,.sl o 4 (encTs ks)] bs=some (.agg (Qa (.mk 3 n 0 ks)),bs):=by
 rw[Qb F.tb_417 _ _ rfl]
 simp[F.f417B,F.f417C,F.f417R,F.f417K,Qa]
structure Rp where
 t:Tm
 b:Tm
def QR (x:Rp):List AV:=[.int .i64 x.t.kind,.str x.t.name,.int .i64 x.t.sort,.sl false 4 (encTs x.t.kids),.int .i64 x.b.kind,.str x.b.name,.int .i64 x.b.sort,.sl false 4 (encTs x.b.kids)]
def Qr (l:List Rp):List (List AV):=l.map QR
theorem QI (l:List Rp): (Qr l).length=l.length:=by simp[Qr]
theorem Z9 {l:List Rp} {i:Nat} {x:Rp} (h:l[i]? =some x): (Qr l)[i]? =some (QR x):=by simp[Qr,h]
theorem Lr (a b:List Rp):Qr a ++ Qr b=Qr (a ++ b):=by simp[Qr]
theorem U1: ∀l:List Rp,gpfreeE (Qr l)=true
 | []=>rfl
 | x:: l=>by
  have:=U1 l
  unfold Qr at this
  simp[Qr,gpfreeE,QR,this]
def X9 (l:List Rp) (t:Tm):Option Tm:=(l.find? fun x=>decide (Qm x.t t=0)).map Rp.b
def ixR (t:Tm):Nat→List Rp→Int
 | _,[]=> -1
 | k,x:: l=>if Qm x.t t=0 then k else ixR t (k+1) l
theorem GS (t:Tm): ∀(l:List Rp) (k:Nat),(ixR t k l= -1∧X9 l t=none)∨∃i x,ixR t k l=(k:Int)+ (i:Nat)∧l[i]? =some x∧X9 l t=some x.b
 | [],k=> .inl ⟨rfl,rfl⟩
 | x:: l,k=>by
  by_cases h:Qm x.t t=0
  ·exact .inr ⟨0,x,by simp[ixR,h],by simp,by simp[X9,h]⟩
  ·rcases GS t l (k+1)with⟨h1,h2⟩ | ⟨i,y,h1,h2,h3⟩
   ·exact .inl ⟨by simp[ixR,h,h1],by simp only[X9,List.find?_cons,h,decide_false];exact h2⟩
   ·refine .inr ⟨i+1,y,?_,by simpa using h2,by simp only[X9,List.find?_cons,h,decide_false];exact h3⟩
    simp only[ixR,h,if_false,h1];omega
theorem Qgs (t:Tm) (x:Rp) (pos:Nat) (bs:List (List AV)) (hp:bs[pos]? =some (Qa t)) (ht:t.mass < big) (hx:x.t.mass < big):call F.tb 420 [.agg (QR x),.gp pos 0] bs=some (.bool (decide (Qm x.t t=0)),bs):=by
 have h:=Dh x.t t bs hx ht
 have e1:=Qj x.t
 rw[e1]at h
 rw[Qb F.tb_420 _ _ rfl]
 simp[F.f420B,F.f420C,F.f420R,F.f420K,QR,hp,h]
theorem QdB (l:List Rp) (t:Tm) (pos:Nat) (bs:List (List AV)) (hp:bs[pos]? =some (Qa t)) (ht:t.mass < big) (hl:l.length < 1000000) (hm: ∀x∈l,x.t.mass < big):
  ∀(post pre:List Rp) (o:Bool) (ρ:Nat→AV),l=pre ++ post→ρ 0= .sl o 8 (Qr l)→ρ 1= .fn 420 [.gp pos 0]→ρ 7= .int .i64 l.length→ρ 8= .int .i64 pre.length→
  R F.tb (.loop F.f421l0) ρ bs (Qk 0 (Qv F.tb F.f421r0 (Qx F.f421 bs)))=some (.int .i64 (ixR t pre.length post),bs):=by
 intro post
 induction post with
 | nil=>
  intro pre o ρ hk h0 h1 h7 h8
  simp only[List.append_nil]at hk
  rw[← hk]at h8
  rw[Qc F.f421l0.eq_1]
  simp[h0,h1,h7,h8,F.f421r0,F.f421R,F.f421K,ixR]
 | cons x post IH=>
  intro pre o ρ hk h0 h1 h7 h8
  have hgt:=Z9 (Qp hk)
  have hll:l.length=pre.length+ (post.length+1):=by rw[hk];simp
  have hw1:IntKind.i64.wrap ((pre.length:Int)+1)=(pre.length:Int)+1:=Ql (by omega) (by omega)
  have hlt: (pre.length:Int) < (l.length:Int):=by omega
  have hcall:=Qgs t x pos bs hp ht (hm x (by rw[hk];simp))
  have ih:=fun ρ=>IH (pre ++ [x]) o ρ (by rw[hk];simp)
  rw[List.length_append,List.length_singleton]at ih
  have es: (QR x).map AV.strip=QR x:=rfl
  have el: (QR x).length=8:=rfl
  have et: (QR x).take 8=QR x:=rfl
  rw[Qc F.f421l0.eq_1]
  by_cases ho:Qm x.t t=0
  ·simp[h0,h1,h7,h8,hlt,hgt,es,el,et,hcall,ho,ixR,F.f421R,F.f421K]
  ·simp[h0,h1,h7,h8,hlt,hgt,hw1,es,el,et,hcall,ho,ixR]
   apply ih <;> simp[h0,h1,h7]
theorem Qgt (l:List Rp) (t:Tm) (pos:Nat) (o:Bool) (bs:List (List AV)) (hp:bs[pos]? =some (Qa t)) (ht:t.mass < big) (hl:l.length < 1000000) (hm: ∀x∈l,x.t.mass < big):
  call F.tb 421 [.sl o 8 (Qr l),.fn 420 [.gp pos 0]] bs=some (.int .i64 (ixR t 0 l),bs):=by
 have h:=fun ρ=>QdB l t pos bs hp ht hl hm l [] false ρ rfl
 rw[Qb F.tb_421 _ _ rfl]
 simp[F.f421B,F.f421C]
 apply h <;> simp[QI]
def SZ:List UInt8:=[104,97,115,104]
def Sd:List (List UInt8):=[Q7,ENC,Zc,PK,QW,SZ]
mutual
def ofT (l:List Rp):Tm→Option Tm
 | .mk k n s ks=>match X9 l (.mk k n s ks)with
  | some b=>some b
  | none=>if Yh (.mk k n s ks)then some (.mk k n s ks)else if isN (.mk k n s ks) Sd then(ofL l ks).map fun us=> .mk 3 n 0 us else none
def ofL (l:List Rp):List Tm→Option (List Tm)
 | []=>some []
 | t:: ts=>match ofT l t,ofL l ts with
  | some u,some us=>some (u:: us)
  | _,_=>none
end
def XS (l:List Rp) (t:Tm):Option Tm:=if isN t Sd then(ofL l t.kids).map fun us=> .mk 3 t.name 0 us else none
theorem G4 (l:List Rp) (t:Tm):ofT l t=match X9 l t with
  | some b=>some b
  | none=>if Yh t then some t else XS l t:=by
 cases t;simp only[ofT,XS];rfl
theorem Ot (l:List Rp) (t:Tm) (ts:List Tm):ofL l (t:: ts)=match ofT l t with
  | none=>none
  | some u=>(ofL l ts).map (u:: ·):=by
 simp only[ofL]
 cases ofT l t <;> cases ofL l ts <;> rfl
def WG (r:Option Tm):AV:= .tup [.agg (Qa (r.getD Qy)),.bool r.isSome]
theorem Qbp {l:List Rp} {t b:Tm} {M:Nat} (hl: ∀x∈l,x.t.mass < M∧x.b.mass < M) (h:X9 l t=some b):b.mass < M:=by
 unfold X9 at h
 cases hf:l.find? fun x=>decide (Qm x.t t=0)with
 | none=>rw[hf]at h;cases h
 | some x=>rw[hf]at h;simp at h;subst h;exact(hl x (List.mem_of_find?_eq_some hf)).2
mutual
theorem MR {l:List Rp} {M:Nat} (hl: ∀x∈l,x.t.mass < M∧x.b.mass < M): ∀{t u:Tm},ofT l t=some u→u.mass≤t.mass+M*t.nodes
 | .mk k n s ks,u,h=>by
  rw[G4]at h
  have hn:1≤(Tm.mk k n s ks).nodes:=by simp only[Tm.nodes];omega
  have hM:M≤M* (Tm.mk k n s ks).nodes:=Nat.le_mul_of_pos_right _ hn
  cases hf:X9 l (.mk k n s ks)with
  | some b=>rw[hf]at h;injection h with h;subst h;have:=Qbp hl hf;omega
  | none=>
   rw[hf]at h
   simp only at h
   split at h
   ·injection h with h;subst h;omega
   ·unfold XS at h
    split at h
    ·simp only[QJ,Q3]at h
     cases ho:ofL l ks with
     | none=>rw[ho]at h;cases h
     | some us=>
      rw[ho]at h
      simp only[Option.map_some,Option.some.injEq]at h
      subst h
      have h1:=ofL_mass hl ho
      have h2:=ofL_len ho
      have e1:=Qo (.mk 3 n 0 us)
      have e2:=Qo (.mk k n s ks)
      simp only[QJ,Q3]at e1 e2
      have e3:M* (Tm.mk k n s ks).nodes=M+M*nodesL ks:=by simp only[Tm.nodes];rw[Nat.mul_add];omega
      omega
    ·cases h
theorem ofL_mass {l:List Rp} {M:Nat} (hl: ∀x∈l,x.t.mass < M∧x.b.mass < M): ∀{ts us:List Tm},ofL l ts=some us→massL us≤massL ts+M*nodesL ts
 | [],us,h=>by simp[ofL]at h;subst h;simp[massL]
 | t:: ts,us,h=>by
  rw[Ot]at h
  cases h1:ofT l t with
  | none=>rw[h1]at h;cases h
  | some u=>
   rw[h1]at h
   cases h2:ofL l ts with
   | none=>rw[h2]at h;cases h
   | some vs=>
    rw[h2]at h
    injection h with h;subst h
    have a1:=MR hl h1
    have a2:=ofL_mass hl h2
    simp only[massL,nodesL]
    rw[Nat.mul_add]
    omega
theorem ofL_len {l:List Rp}: ∀{ts us:List Tm},ofL l ts=some us→us.length=ts.length
 | [],us,h=>by simp[ofL]at h;subst h;rfl
 | t:: ts,us,h=>by
  rw[Ot]at h
  cases h1:ofT l t with
  | none=>rw[h1]at h;cases h
  | some u=>
   rw[h1]at h
   cases h2:ofL l ts with
   | none=>rw[h2]at h;cases h
   | some vs=>rw[h2]at h;injection h with h;subst h;simp[ofL_len h2]
end
end Go.Am
namespace Go.Am
set_option maxRecDepth 8000
theorem ZR:WG none= .tup [.agg [.int .i64 0,.str [],.int .i64 0,.sl false 4 []],.bool false]:=by simp[WG,Qy,Qa,encTs]
theorem ZG (t:Tm):WG (some t)= .tup [.agg (Qa t),.bool true]:=rfl
def ROk (l:List Rp):Prop:=l.length < 1000000∧∀x∈l,x.t.mass < 1000000∧x.b.mass < 1000000
theorem DX {l:List Rp} (h:ROk l): ∀x∈l,x.t.mass < big:=fun x hx=>by have:=(h.2 x hx).1;unfold big;omega
theorem CA (l:List Rp) (t:Tm) (bs:List (List AV)) (ht:t.mass < 1000000) (ih: ∀x∈t.kids,∀(o:Bool) (bs:List (List AV)),call F.tb 419 [.sl o 8 (Qr l),.agg (Qa x)] bs=some (WG (ofT l x),bs)):
  ∀(post pre us:List Tm) (o:Bool) (ρ:Nat→AV),t.kids=pre ++ post→us.length=pre.length→ρ 0= .sl o 8 (Qr l)→ρ 3= .bx (Qa t)→ρ 4= .bx [.int .i64 0,.str [],.int .i64 0,.sl true 4 []]→
   ρ 6= .sl true 4 (encTs us)→ρ 17= .sl false 4 (encTs t.kids)→ρ 18= .int .i64 t.kids.length→ρ 19= .int .i64 pre.length→
  R F.tb (.loop F.f422l0) ρ bs (Qk 0 (Qv F.tb F.f422r0 (Qx F.f422 bs)))=some (WG ((ofL l post).map fun vs=> .mk 3 t.name 0 (us ++ vs)),bs):=by
 have hme:=Qo t
 intro post
 induction post with
 | nil=>
  intro pre us o ρ hk hl h0 h3 h4 h6 h17 h18 h19
  simp only[List.append_nil]at hk
  rw[← hk]at h19
  have hc:=T4 t.name us false bs
  rw[Qc F.f422l0.eq_1]
  simp[h0,h3,h4,h6,h17,h18,h19,F.f422r0,F.f422R,F.f422K,ofL,hc,ZG]
 | cons x post IH=>
  intro pre us o ρ hk hl h0 h3 h4 h6 h17 h18 h19
  have hg:=Qp hk
  have hll:t.kids.length=pre.length+ (post.length+1):=by rw[hk];simp
  have hw1:IntKind.i64.wrap ((pre.length:Int)+1)=(pre.length:Int)+1:=Ql (by omega) (by omega)
  have hlt: (pre.length:Int) < (t.kids.length:Int):=by omega
  have hc:=ih x (by rw[hk];simp) false bs
  have hb: (us.length+1)*56≤140737488355328:=Yr (by omega)
  rw[Qc F.f422l0.eq_1,Ot]
  cases hx:ofT l x with
  | none=>
   rw[hx,ZR]at hc
   simp[h0,h3,h4,h6,h17,h18,h19,hg,hlt,hc,F.f422R,F.f422K,ZR]
  | some u=>
   rw[hx,ZG]at hc
   have hi:=fun ρ=>IH (pre ++ [x]) (us ++ [u]) o ρ (by rw[hk];simp) (by simp[hl])
   have e: ((ofL l post).map (u:: ·)).map (fun vs=>Tm.mk 3 t.name 0 (us ++ vs))=(ofL l post).map fun vs=>Tm.mk 3 t.name 0 (us ++ [u]++ vs):=by cases ofL l post <;> simp
   simp only[e]
   simp[h0,h3,h4,h6,h17,h18,h19,hg,hlt,hw1,hc,hb,Zb,QQ,-List.append_assoc,-Option.map_map]
   apply hi <;> simp[h0,h3,h4,h17,h18]
theorem Lj (l:List Rp) (t:Tm) (ht:t.mass < 1000000) (ih: ∀x∈t.kids,∀(o:Bool) (bs:List (List AV)),call F.tb 419 [.sl o 8 (Qr l),.agg (Qa x)] bs=some (WG (ofT l x),bs)) (o:Bool) (bs:List (List AV)):
  call F.tb 422 [.sl o 8 (Qr l),.agg (Qa t)] bs=some (WG (XS l t),bs):=by
 have h1:=NV t Sd false bs (by decide)
 have h2:=fun ρ=>CA l t bs ht ih t.kids [] [] false ρ rfl rfl
 have e0:Tf Sd=[[.str Q7],[.str ENC],[.str Zc],[.str PK],[.str QW],[.str SZ]]:=rfl
 rw[e0]at h1
 simp only[Q7,ENC,Zc,PK,QW,SZ]at h1
 have h1': ∀o,call F.tb 416 [.agg (Qa t),.sl o 1 [[.str [112,97,105,114]],[.str [101,110,99]],[.str [97,101,110,99]],[.str [112,107]],[.str [115,105,103,110]],[.str [104,97,115,104]]]] bs=some (.bool (isN t Sd),bs):=fun o=>by
  have:=NV t Sd o bs (by decide)
  rw[e0]at this
  simpa only[Q7,ENC,Zc,PK,QW,SZ]using this
 rw[Qb F.tb_422 _ _ rfl]
 unfold XS
 cases hc:isN t Sd
 ·rw[hc]at h1'
  simp[F.f422B,F.f422C,F.f422R,F.f422K,h1',ZR]
 ·rw[hc]at h1'
  simp[F.f422B,F.f422C,h1']
  simp only[List.nil_append]at h2
  apply h2 <;> simp[encTs]
theorem KN (l:List Rp) (hl:ROk l): ∀(t:Tm) (o:Bool) (bs:List (List AV)),t.mass < 1000000→call F.tb 419 [.sl o 8 (Qr l),.agg (Qa t)] bs=some (WG (ofT l t),bs):=by
 refine Zh (P:=fun t=>∀(o:Bool) (bs:List (List AV)),t.mass < 1000000→call F.tb 419 [.sl o 8 (Qr l),.agg (Qa t)] bs=some (WG (ofT l t),bs)) ?_
 intro k n s ks ih o bs hm
 have hme:=Qo (.mk k n s ks)
 simp only[QJ,Q3]at hme
 have h3:=Lj l (.mk k n s ks) hm (fun x hx o bs=>ih x hx o bs (by have h1:x.mass≤massL ks:=Qz hx;omega)) false (bs ++ [Qa (.mk k n s ks)])
 generalize ht:Tm.mk k n s ks=t at *
 have h1:=Qgt l t bs.length false (bs ++ [Qa t]) (by simp) (by unfold big;omega) hl.1 (DX hl)
 have h2:=PO t (bs ++ [Qa t]) hm
 have hgp: ∀r:Option Tm,(r.getD Qy).kind=(r.getD Qy).kind:=fun _=>rfl
 rw[Qb F.tb_419 _ _ rfl,G4]
 rcases GS t l 0 with⟨a1,a2⟩ | ⟨i,x,a1,a2,a3⟩
 ·rw[a1]at h1
  rw[a2]
  cases c1:Yh t
  ·rw[c1]at h2
   cases c2:XS l t with
   | none=>
    rw[c2,ZR]at h3
    simp[F.f419B,F.f419C,F.f419R,F.f419K,h1,h2,h3,ZR]
   | some u=>
    rw[c2,ZG]at h3
    simp[F.f419B,F.f419C,F.f419R,F.f419K,h1,h2,h3,ZG]
  ·rw[c1]at h2
   simp[F.f419B,F.f419C,F.f419R,F.f419K,h1,h2,ZG]
 ·rw[a1]at h1
  rw[a3]
  have hg:=Z9 a2
  have hlt:=(List.getElem?_eq_some_iff.1 a2).1
  have h0: (0:Int)≤(i:Int):=by omega
  have e1:=Qj x.b
  have ed: ∀y:Rp,(QR y).drop 4=Qa y.b:=fun y=>by simp[QR,Qj]
  simp[-getElem?_pos,F.f419B,F.f419C,F.f419R,F.f419K,h1,hg,h0,ed,ZG]
theorem Qgu (l:List Rp) (hl:ROk l) (t:Tm) (ht:t.mass < 1000000) (o:Bool) (bs:List (List AV)):call F.tb 422 [.sl o 8 (Qr l),.agg (Qa t)] bs=some (WG (XS l t),bs):=
 Lj l t ht (fun x hx o bs=>KN l hl x o bs (by have h1:=Qz hx;have:=Qo t;omega)) o bs
theorem QgE (t:Tm) (bs:List (List AV)):call F.tb 454 [.agg (Qa t)] bs=some (.bool (isN t Sd),bs):=by
 rw[Qb F.tb_454 _ _ rfl]
 unfold isN
 have e:Sd.contains t.name=(t.name == Q7 || t.name == ENC || t.name == Zc || t.name == PK || t.name == QW || t.name == SZ):=by simp only[Sd,List.contains_cons,List.contains_nil,Bool.or_false,Bool.or_assoc]
 rw[e]
 by_cases hk:t.kind=3
 ·by_cases c1:t.name=Q7
  ·simp only[Q7]at c1;simp[F.f454B,F.f454C,F.f454R,F.f454K,hk,c1,Q7]
  by_cases c2:t.name=ENC
  ·simp only[Q7,ENC]at c1 c2;simp[F.f454B,F.f454C,F.f454R,F.f454K,hk,c2,Q7,ENC]
  by_cases c3:t.name=Zc
  ·simp only[Q7,ENC,Zc]at c1 c2 c3;simp[F.f454B,F.f454C,F.f454R,F.f454K,hk,c3,Q7,ENC,Zc]
  by_cases c4:t.name=PK
  ·simp only[PK]at c4;simp[F.f454B,F.f454C,F.f454R,F.f454K,hk,c4,Q7,ENC,Zc,PK]
  by_cases c5:t.name=QW
  ·simp only[QW]at c5;simp[F.f454B,F.f454C,F.f454R,F.f454K,hk,c5,Q7,ENC,Zc,PK,QW]
  by_cases c6:t.name=SZ
  ·simp only[SZ]at c6;simp[F.f454B,F.f454C,F.f454R,F.f454K,hk,c6,Q7,ENC,Zc,PK,QW,SZ]
  simp only[Q7,ENC,Zc,PK,QW,SZ]at c1 c2 c3 c4 c5 c6
  simp[F.f454B,F.f454C,F.f454R,F.f454K,hk,c1,c2,c3,c4,c5,c6,Q7,ENC,Zc,PK,QW,SZ,Bool.or_assoc]
 ·simp[F.f454B,F.f454C,F.f454R,F.f454K,hk]
theorem H0 (l:List Rp) (t:Tm) (bs:List (List AV)) (ht:t.mass < 1000000) (ih: ∀x∈t.kids,∀(o:Bool) (bs:List (List AV)),call F.tb 452 [.sl o 8 (Qr l),.agg (Qa x)] bs=some (WG (ofT l x),bs)):
  ∀(post pre us:List Tm) (o:Bool) (ρ:Nat→AV),t.kids=pre ++ post→us.length=pre.length→ρ 0= .sl o 8 (Qr l)→ρ 3= .bx (Qa t)→ρ 4= .bx [.int .i64 0,.str [],.int .i64 0,.sl true 4 []]→
   ρ 6= .sl true 4 (encTs us)→ρ 7= .int .i64 pre.length→
  R F.tb (.loop F.f453l0) ρ bs (Qk 0 (Qv F.tb F.f453r0 (Qx F.f453 bs)))=some (WG ((ofL l post).map fun vs=> .mk 3 t.name 0 (us ++ vs)),bs):=by
 have hme:=Qo t
 intro post
 induction post with
 | nil=>
  intro pre us o ρ hk hl h0 h3 h4 h6 h7
  simp only[List.append_nil]at hk
  rw[← hk]at h7 hl
  have hc:=YD t.name us false bs (by omega)
  rw[Qc F.f453l0.eq_1]
  simp[h0,h3,h4,h6,h7,F.f453r0,F.f453R,F.f453K,ofL,hc,ZG]
 | cons x post IH=>
  intro pre us o ρ hk hl h0 h3 h4 h6 h7
  have hg:=Qp hk
  have hll:t.kids.length=pre.length+ (post.length+1):=by rw[hk];simp
  have hw1:IntKind.i64.wrap ((pre.length:Int)+1)=(pre.length:Int)+1:=Ql (by omega) (by omega)
  have hlt: (pre.length:Int) < (t.kids.length:Int):=by omega
  have hc:=ih x (by rw[hk];simp) false bs
  have hb: (us.length+1)*56≤140737488355328:=Yr (by omega)
  rw[Qc F.f453l0.eq_1,Ot]
  cases hx:ofT l x with
  | none=>
   rw[hx,ZR]at hc
   simp[h0,h3,h4,h6,h7,hg,hlt,hc,F.f453R,F.f453K,ZR]
  | some u=>
   rw[hx,ZG]at hc
   have hi:=fun ρ=>IH (pre ++ [x]) (us ++ [u]) o ρ (by rw[hk];simp) (by simp[hl])
   have e: ((ofL l post).map (u:: ·)).map (fun vs=>Tm.mk 3 t.name 0 (us ++ vs))=(ofL l post).map fun vs=>Tm.mk 3 t.name 0 (us ++ [u]++ vs):=by cases ofL l post <;> simp
   simp only[e]
   simp[h0,h3,h4,h6,h7,hg,hlt,hw1,hc,hb,Zb,QQ,-List.append_assoc,-Option.map_map]
   apply hi <;> simp[h0,h3,h4]
theorem Lk (l:List Rp) (t:Tm) (ht:t.mass < 1000000) (ih: ∀x∈t.kids,∀(o:Bool) (bs:List (List AV)),call F.tb 452 [.sl o 8 (Qr l),.agg (Qa x)] bs=some (WG (ofT l x),bs)) (o:Bool) (bs:List (List AV)):
  call F.tb 453 [.sl o 8 (Qr l),.agg (Qa t)] bs=some (WG (XS l t),bs):=by
 have h1:=QgE t bs
 have h2:=fun ρ=>H0 l t bs ht ih t.kids [] [] false ρ rfl rfl
 rw[Qb F.tb_453 _ _ rfl]
 unfold XS
 cases hc:isN t Sd
 ·rw[hc]at h1
  simp[F.f453B,F.f453C,F.f453R,F.f453K,h1,ZR]
 ·rw[hc]at h1
  simp[F.f453B,F.f453C,h1]
  simp only[List.nil_append]at h2
  apply h2 <;> simp[encTs]
theorem Ca (l:List Rp) (hl:ROk l) (t:Tm) (ht:t.mass < 1000000) (bs:List (List AV)) (h3:call F.tb 453 [.sl false 8 (Qr l),.agg (Qa t)] bs=some (WG (XS l t),bs)):
  ∀(post pre:List Rp) (o:Bool) (ρ:Nat→AV),l=pre ++ post→ρ 0= .sl o 8 (Qr l)→ρ 3= .bx (Qa t)→ρ 4= .bx [.int .i64 0,.str [],.int .i64 0,.sl true 4 []]→ρ 6= .int .i64 pre.length→
  R F.tb (.loop F.f452l0) ρ bs (Qk 0 (Qv F.tb F.f452r0 (Qx F.f452 bs)))=some (WG (match X9 post t with
   | some b=>some b
   | none=>if Yh t then some t else XS l t),bs):=by
 have h2:=PP t bs ht
 intro post
 induction post with
 | nil=>
  intro pre o ρ hk h0 hb3 h4 h6
  simp only[List.append_nil]at hk
  rw[← hk]at h6
  have hf:X9 [] t=none:=rfl
  rw[Qc F.f452l0.eq_1,hf]
  cases c1:Yh t
  ·rw[c1]at h2
   cases c2:XS l t with
   | none=>
    rw[c2,ZR]at h3
    simp[h0,hb3,h4,h6,QI,h2,h3,F.f452r0,F.f452R,F.f452K,ZR]
   | some u=>
    rw[c2,ZG]at h3
    simp[h0,hb3,h4,h6,QI,h2,h3,F.f452r0,F.f452R,F.f452K,ZG]
  ·rw[c1]at h2
   simp[h0,hb3,h4,h6,QI,h2,F.f452r0,F.f452R,F.f452K,ZG]
 | cons x post IH=>
  intro pre o ρ hk h0 hb3 h4 h6
  have hg:=Z9 (Qp hk)
  have hll:l.length=pre.length+ (post.length+1):=by rw[hk];simp
  have hlb:=hl.1
  have hw1:IntKind.i64.wrap ((pre.length:Int)+1)=(pre.length:Int)+1:=Ql (by omega) (by omega)
  have hlt: (pre.length:Int) < (l.length:Int):=by omega
  have hc:=Z8 x.t t bs (DX hl x (by rw[hk];simp)) (by unfold big;omega)
  have ih:=fun ρ=>IH (pre ++ [x]) o ρ (by rw[hk];simp)
  have ed: ∀y:Rp,(QR y).drop 4=Qa y.b:=fun y=>by simp[QR,Qj]
  have et: ∀y:Rp,(QR y).take 4=Qa y.t:=fun y=>by simp[QR,Qj]
  have el: ∀y:Rp,(QR y).length=8:=fun y=>rfl
  rw[Qc F.f452l0.eq_1]
  by_cases c:Qm x.t t=0
  ·have hf:X9 (x:: post) t=some x.b:=by simp[X9,c]
   rw[hf]
   simp[-getElem?_pos,h0,hb3,h4,h6,QI,hlt,hg,hc,c,ed,et,el,F.f452R,F.f452K,ZG]
  ·have hf:X9 (x:: post) t=X9 post t:=by simp[X9,c]
   rw[hf]
   simp[-getElem?_pos,h0,hb3,h4,h6,QI,hlt,hg,hc,c,ed,et,el,hw1]
   apply ih <;> simp[h0,hb3,h4]
theorem NW (l:List Rp) (hl:ROk l): ∀(t:Tm) (o:Bool) (bs:List (List AV)),t.mass < 1000000→call F.tb 452 [.sl o 8 (Qr l),.agg (Qa t)] bs=some (WG (ofT l t),bs):=by
 refine Zh (P:=fun t=>∀(o:Bool) (bs:List (List AV)),t.mass < 1000000→call F.tb 452 [.sl o 8 (Qr l),.agg (Qa t)] bs=some (WG (ofT l t),bs)) ?_
 intro k n s ks ih o bs hm
 have hme:=Qo (.mk k n s ks)
 simp only[QJ,Q3]at hme
 have h3:=Lk l (.mk k n s ks) hm (fun x hx o bs=>ih x hx o bs (by have h1:x.mass≤massL ks:=Qz hx;omega)) false bs
 generalize ht:Tm.mk k n s ks=t at *
 have h:=fun ρ=>Ca l hl t hm bs h3 l [] false ρ rfl
 rw[Qb F.tb_452 _ _ rfl,G4]
 simp[F.f452B,F.f452C]
 apply h <;> simp
theorem Dn (l:List Rp) (hl:ROk l) (t:Tm) (ht:t.mass < 1000000) (o:Bool) (bs:List (List AV)):call F.tb 453 [.sl o 8 (Qr l),.agg (Qa t)] bs=some (WG (XS l t),bs):=
 Lk l t ht (fun x hx o bs=>NW l hl x o bs (by have h1:=Qz hx;have:=Qo t;omega)) o bs
end Go.Am
namespace Go.Am
set_option maxRecDepth 8000
theorem GH {t:Tm} {n:List UInt8} (h:QU t=true) (hb:isB t n=true) (hn:Q6 n t.kids.length=decide (t.kids.length=1)): ∃x,t.kids=[x]:=by
 obtain⟨hk,rfl⟩:=PY.1 hb
 have:=(Wy h hk).2
 rw[hn]at this
 exact List.length_eq_one_iff.1 (by simpa using this)
theorem FJ (t:Tm) (bs:List (List AV)) (hm:t.mass < big):call F.tb 46 [.agg (Qa t)] bs=some (.agg (Qa t),bs):=by
 rw[Qb F.tb_46 _ _ rfl]
 simp[F.f46,F.f46C,H8 t bs hm]
def ZV (t:Tm):Tm×Int:=
 if thV t≠0 then(Qy,thV t)else if isB t ENC then(kid t 1,0)else if !isB t Zc then(Qy,10)else if !isB (kid t 1) PK then(Qy,4)else(kid (kid t 1) 0,0)
theorem Qgr (t:Tm) (bs:List (List AV)) (hm:t.mass < big):call F.tb 418 [.agg (Qa t)] bs=some (QL (ZV t),bs):=by
 have h0:=W5 t bs hm
 have h1:=fun t n=>SF t n bs
 have h3:=fun t hm=>FJ t bs hm
 rw[Qb F.tb_418 _ _ rfl]
 by_cases c0:thV t=0
 ·obtain⟨_,_,hg,hma,hno⟩:=ZY c0
  have h2:=h1 t ENC
  have h4:=h1 t Zc
  simp only[ENC]at h2
  simp only[Zc]at h4
  cases c1:isB t ENC
  ·simp only[ENC]at c1
   cases c2:isB t Zc
   ·have e:ZV t=(Qy,10):=by simp[ZV,c0,c2,ENC,c1]
    simp only[Zc]at c2
    rw[e]
    simp[F.f418B,F.f418C,F.f418R,F.f418K,h0,c0,h2,c1,h4,c2,QD,QA]
   ·obtain⟨x,y,hk⟩:=Q0 hg c2 (by simp[Q6])
    have ey:kid t 1=y:=by simp[kid,hk]
    have h5:=h1 y PK
    simp only[PK]at h5
    cases c3:isB y PK
    ·have e:ZV t=(Qy,4):=by simp[ZV,c0,c2,ENC,c1,ey,c3]
     simp only[Zc]at c2
     simp only[PK]at c3
     rw[e]
     simp[F.f418B,F.f418C,F.f418R,F.f418K,h0,c0,h2,c1,h4,c2,hk,h5,c3,QD,QA]
    ·have hgy:QU y=true:=by
      have:=Xc hg;rw[hk]at this;simp[goodL]at this;exact this.2
     obtain⟨z,hz⟩:=GH hgy c3 (by simp[Q6,PK,Q7,ENC,Zc,QW,EXP,DEC,Q5,QT])
     have ez:kid y 0=z:=by simp[kid,hz]
     have e:ZV t=(z,0):=by simp[ZV,c0,c2,ENC,c1,ey,c3,ez]
     have hmt:=Qo t
     have hmy:=Qo y
     rw[hk]at hmt
     rw[hz]at hmy
     simp only[massL]at hmt hmy
     have h6:=h3 z (by unfold big;omega)
     have ey:=Qj y
     rw[hz]at ey
     simp only[encTs]at ey
     rw[ey]at h5
     simp only[Zc]at c2
     simp only[PK]at c3
     rw[e]
     simp[F.f418B,F.f418C,F.f418R,F.f418K,h0,c0,h2,c1,h4,c2,hk,h5,c3,h6,QD,ey,encTs]
  ·obtain⟨x,y,hk⟩:=Q0 hg c1 (by simp[Q6])
   have e:ZV t=(y,0):=by simp[ZV,c0,c1,kid,hk]
   have hmt:=Qo t
   rw[hk]at hmt
   simp only[massL]at hmt
   have h6:=h3 y (by unfold big;omega)
   simp only[ENC]at c1
   rw[e]
   simp[F.f418B,F.f418C,F.f418R,F.f418K,h0,c0,h2,c1,hk,h6,QD]
 ·have e:ZV t=(Qy,thV t):=by simp[ZV,c0]
  rw[e]
  simp[F.f418B,F.f418C,F.f418R,F.f418K,h0,c0,QD,QA]
theorem Qgj (t:Tm) (bs:List (List AV)) (hm:t.mass < big):call F.tb 304 [.agg (Qa t)] bs=some (QL (ZV t),bs):=by
 have h0:=W4 t bs hm
 have h1:=fun t n=>VJ t n bs
 rw[Qb F.tb_304 _ _ rfl]
 by_cases c0:thV t=0
 ·obtain⟨_,_,hg,hma,hno⟩:=ZY c0
  have h2:=h1 t ENC
  have h4:=h1 t Zc
  simp only[ENC]at h2
  simp only[Zc]at h4
  cases c1:isB t ENC
  ·simp only[ENC]at c1
   cases c2:isB t Zc
   ·have e:ZV t=(Qy,10):=by simp[ZV,c0,c2,ENC,c1]
    simp only[Zc]at c2
    rw[e]
    simp[F.f304B,F.f304C,F.f304R,F.f304K,h0,c0,h2,c1,h4,c2,QD,QA]
   ·obtain⟨x,y,hk⟩:=Q0 hg c2 (by simp[Q6])
    have ey:kid t 1=y:=by simp[kid,hk]
    have h5:=h1 y PK
    simp only[PK]at h5
    cases c3:isB y PK
    ·have e:ZV t=(Qy,4):=by simp[ZV,c0,c2,ENC,c1,ey,c3]
     simp only[Zc]at c2
     simp only[PK]at c3
     rw[e]
     simp[F.f304B,F.f304C,F.f304R,F.f304K,h0,c0,h2,c1,h4,c2,hk,h5,c3,QD,QA]
    ·have hgy:QU y=true:=by
      have:=Xc hg;rw[hk]at this;simp[goodL]at this;exact this.2
     obtain⟨z,hz⟩:=GH hgy c3 (by simp[Q6,PK,Q7,ENC,Zc,QW,EXP,DEC,Q5,QT])
     have ez:kid y 0=z:=by simp[kid,hz]
     have e:ZV t=(z,0):=by simp[ZV,c0,c2,ENC,c1,ey,c3,ez]
     have ey:=Qj y
     rw[hz]at ey
     simp only[encTs]at ey
     rw[ey]at h5
     simp only[Zc]at c2
     simp only[PK]at c3
     rw[e]
     simp[F.f304B,F.f304C,F.f304R,F.f304K,h0,c0,h2,c1,h4,c2,hk,h5,c3,QD,ey,encTs]
  ·obtain⟨x,y,hk⟩:=Q0 hg c1 (by simp[Q6])
   have e:ZV t=(y,0):=by simp[ZV,c0,c1,kid,hk]
   simp only[ENC]at c1
   rw[e]
   simp[F.f304B,F.f304C,F.f304R,F.f304K,h0,c0,h2,c1,hk,QD]
 ·have e:ZV t=(Qy,thV t):=by simp[ZV,c0]
  rw[e]
  simp[F.f304B,F.f304C,F.f304R,F.f304K,h0,c0,QD,QA]
def YN (f:Fr) (r:Tm):Bool:=if QF r≠0 then true else decide ((Wp f r).2=3)
theorem Dk (f:Fr) (hf:FOk f) (hM:massL f.t < 1000000) (r:Tm) (hr:r.mass < big) (bs:List (List AV)):call F.tb 424 [.agg (Qq f),.agg (Qa r)] bs=some (.bool (YN f r),bs):=by
 have h0:=Xp r bs hr
 have h1:call F.tb 425 [.agg (Qa r)] bs=some (.bool (decide (QF r≠0)),bs):=by
  rw[Qb F.tb_425 _ _ rfl]
  by_cases c:QF r=0 <;> simp[F.f425B,F.f425C,F.f425R,F.f425K,h0,c]
 have e1:=Qj r
 rw[Qb F.tb_424 _ _ rfl]
 unfold YN
 by_cases c:QF r=0
 ·have h2:=QfT f hf hM r (by have:=(Y6 c).2.2;omega) bs
  generalize Wp f r=V at *
  obtain⟨v,e⟩:=V
  have e2:=Qj v
  simp only[QL,e2]at h2
  by_cases c2:e=3 <;> simp[F.f424B,F.f424C,F.f424R,F.f424K,QX,QG,Q4,h1,h2,c,c2]
 ·simp[F.f424B,F.f424C,F.f424R,F.f424K,QX,QG,Q4,h1,c]
theorem Do (f:Fr) (hf:FOk f) (hM:massL f.t < 1000000) (r:Tm) (hr:r.mass < big) (bs:List (List AV)):call F.tb 456 [.agg (Qq f),.agg (Qa r)] bs=some (.bool (!YN f r),bs):=by
 have h0:=Yv r bs hr
 have e1:=Qj r
 rw[Qb F.tb_456 _ _ rfl]
 unfold YN
 by_cases c:QF r=0
 ·have h2:=Qgd f hf hM r (by have:=(Y6 c).2.2;omega) bs
  generalize Wp f r=V at *
  obtain⟨v,e⟩:=V
  have e2:=Qj v
  simp only[QL,e2]at h2
  by_cases c2:e=3 <;> simp[F.f456B,F.f456C,F.f456R,F.f456K,QX,QG,Q4,h0,h2,c,c2]
 ·simp[F.f456B,F.f456C,F.f456R,F.f456K,QX,QG,Q4,h0,c]
end Go.Am
namespace Go.Am
set_option maxRecDepth 8000
def Zd (l:List Rp) (x:Rp):List Rp:=
 if isB x.t Q7 then [⟨kid x.t 0,.mk 3 FST 0 [x.b]⟩,⟨kid x.t 1,.mk 3 SND 0 [x.b]⟩]
 else if isB x.t QW then [⟨kid x.t 0,.mk 3 READ 0 [x.b]⟩]
 else if(ZV x.t).2≠0 then []else match ofT l (ZV x.t).1 with
  | none=>[]
  | some b=>[⟨kid x.t 0,.mk 3 (if isB x.t Zc then Q5 else DEC) 0 [x.b,b]⟩]
theorem K1 {t:Tm} (h: (ZV t).2=0):thV t=0∧(isB t ENC=true∨isB t Zc=true):=by
 unfold ZV at h
 split at h
 ·rename_i c;exact absurd h c
 ·rename_i c
  refine⟨by simpa using c,?_⟩
  split at h
  ·rename_i c;exact .inl c
  ·split at h
   ·simp at h
   ·rename_i c;exact .inr (by simpa using c)
theorem MN (t:Tm): (ZV t).1.mass≤t.mass+1:=by
 have z:=Vf
 have h1:=Ok t 1
 have h2:=Ok (kid t 1) 0
 unfold ZV
 split
 ·simp only;omega
 ·split
  ·simp only;omega
  ·split
   ·simp only;omega
   ·split
    ·simp only;omega
    ·simp only;omega
theorem YA:Qr []=[]:=rfl
theorem X4 (x:Rp):Qr [x]=[QR x]:=rfl
theorem X5 (x y:Rp):Qr [x,y]=[QR x,QR y]:=rfl
theorem Qgq (l:List Rp) (hl:ROk l) (x:Rp) (hv:thV x.t=0) (o:Bool) (bs:List (List AV)):
  call F.tb 415 [.sl o 8 (Qr l),.agg (QR x)] bs=some (.sl true 8 (Qr (Zd l x)),bs):=by
 obtain⟨t,b⟩:=x
 simp only at hv
 obtain⟨_,_,hg,hma,hno⟩:=ZY hv
 have h1: ∀n o,call F.tb 416 [.agg (Qa t),.sl o 1 [[.str n]]] bs=some (.bool (isB t n),bs):=fun n o=>by
  have:=NV t [n] o bs (by simp)
  rw[DN]at this
  exact this
 have h2: ∀n o,call F.tb 417 [.str n,.sl o 4 [Qa b]] bs=some (.agg (Qa (.mk 3 n 0 [b])),bs):=fun n o=>T4 n [b] o bs
 have h3:=Qgr t bs (by unfold big;omega)
 have hkm:=MN t
 have h4:=fun o=>KN l hl (ZV t).1 o bs (by omega)
 have e0:=Qj t
 have e1:=Qj b
 have e2: ∀n ks,Qa (.mk 3 n 0 ks)=[.int .i64 3,.str n,.int .i64 0,.sl false 4 (encTs ks)]:=fun n ks=>by simp[Qa]
 have p1:=h1 Q7
 have p2:=h1 QW
 have p3:=h1 Zc
 simp only[Q7]at p1
 simp only[QW]at p2
 simp only[Zc]at p3
 rw[Qb F.tb_415 _ _ rfl]
 simp only[Zd]
 cases c1:isB t Q7
 ·simp only[Q7]at c1
  cases c2:isB t QW
  ·simp only[QW]at c2
   by_cases c3: (ZV t).2=0
   ·obtain⟨_,hea⟩:=K1 c3
    have hk: ∃x y,t.kids=[x,y]:=by
     rcases hea with h | h
     ·exact Q0 hg h (by simp[Q6])
     ·exact Q0 hg h (by simp[Q6])
    obtain⟨y,z,hk⟩:=hk
    have ey:=Qj y
    have ekd:kid t 0=y:=by simp[kid,hk]
    rw[hk]at e0
    simp only[encTs,ey]at e0
    generalize hkt:ZV t=q at *
    obtain⟨k,e⟩:=q
    simp only at c3 h4
    subst c3
    have ek:=Qj k
    simp only[QL]at h3
    rw[ek]at h4
    simp only[ek]at h3
    cases c4:ofT l k with
    | none=>
     rw[c4,ZR]at h4
     simp only[e0]at h3 p1 p2 p3
     simp[F.f415B,F.f415C,F.f415R,F.f415K,QR,p1,c1,p2,c2,h3,h4,hk,ey,encTs,YA]
    | some u=>
     have eu:=Qj u
     rw[c4,ZG,eu]at h4
     have h5: ∀n o,call F.tb 417 [.str n,.sl o 4 [Qa b,Qa u]] bs=some (.agg (Qa (.mk 3 n 0 [b,u])),bs):=fun n o=>T4 n [b,u] o bs
     simp only[e0,e1,eu,e2]at h3 p1 p2 p3 h5
     cases c5:isB t Zc
     ·simp only[Zc]at c5
      simp[F.f415B,F.f415C,F.f415R,F.f415K,QR,p1,c1,p2,c2,p3,c5,h3,h4,h5,hk,ey,ekd,YA,X4,X5,encTs,e1,eu,DEC]
     ·simp only[Zc]at c5
      simp[F.f415B,F.f415C,F.f415R,F.f415K,QR,p1,c1,p2,c2,p3,c5,h3,h4,h5,hk,ey,ekd,YA,X4,X5,encTs,e1,eu,Q5]
   ·generalize hkt:ZV t=q at *
    obtain⟨k,e⟩:=q
    simp only at c3
    have ek:=Qj k
    simp only[QL]at h3
    simp only[ek]at h3
    simp only[e0]at h3 p1 p2 p3
    simp[F.f415B,F.f415C,F.f415R,F.f415K,QR,p1,c1,p2,c2,h3,c3,YA]
  ·obtain⟨y,z,hk⟩:=Q0 hg c2 (by simp[Q6])
   have ey:=Qj y
   have ekd:kid t 0=y:=by simp[kid,hk]
   rw[hk]at e0
   simp only[encTs,ey]at e0
   have q:=h2 READ
   simp only[READ]at q
   simp only[QW]at c2
   simp only[e0,e1,e2]at p1 p2 q
   simp[F.f415B,F.f415C,F.f415R,F.f415K,QR,p1,c1,p2,c2,q,hk,ey,ekd,YA,X4,X5,encTs,e1,READ]
 ·obtain⟨y,z,hk⟩:=Q0 hg c1 (by simp[Q6])
  have ey:=Qj y
  have ez:=Qj z
  have ekd:kid t 0=y:=by simp[kid,hk]
  have ekd1:kid t 1=z:=by simp[kid,hk]
  rw[hk]at e0
  simp only[encTs,ey,ez]at e0
  have q:=h2 FST
  have q2:=h2 SND
  simp only[FST]at q
  simp only[SND]at q2
  simp only[Q7]at c1
  simp only[e0,e1,e2]at p1 p2 q q2
  simp[F.f415B,F.f415C,F.f415R,F.f415K,QR,p1,c1,q,q2,hk,ey,ez,ekd,ekd1,YA,X4,X5,encTs,e1,FST,SND]
theorem QgD (l:List Rp) (hl:ROk l) (x:Rp) (hv:thV x.t=0) (o:Bool) (bs:List (List AV)):
  call F.tb 451 [.sl o 8 (Qr l),.agg (QR x)] bs=some (.tup [.sl false 8 (Qr (Zd l x)),.bool !(Zd l x).isEmpty],bs):=by
 obtain⟨t,b⟩:=x
 simp only at hv
 obtain⟨_,_,hg,hma,hno⟩:=ZY hv
 have h1: ∀n,call F.tb 132 [.agg (Qa t),.str n] bs=some (.bool (isB t n),bs):=fun n=>VJ t n bs
 have h2: ∀n o,call F.tb 120 [.str n,.sl o 4 [Qa b]] bs=some (.agg (Qa (.mk 3 n 0 [b])),bs):=fun n o=>YD n [b] o bs (by simp)
 have h3:=Qgj t bs (by unfold big;omega)
 have hkm:=MN t
 have h4:=fun o=>NW l hl (ZV t).1 o bs (by omega)
 have e0:=Qj t
 have e1:=Qj b
 have e2: ∀n ks,Qa (.mk 3 n 0 ks)=[.int .i64 3,.str n,.int .i64 0,.sl false 4 (encTs ks)]:=fun n ks=>by simp[Qa]
 have p1:=h1 Q7
 have p2:=h1 QW
 have p3:=h1 Zc
 simp only[Q7]at p1
 simp only[QW]at p2
 simp only[Zc]at p3
 rw[Qb F.tb_451 _ _ rfl]
 simp only[Zd]
 cases c1:isB t Q7
 ·simp only[Q7]at c1
  cases c2:isB t QW
  ·simp only[QW]at c2
   by_cases c3: (ZV t).2=0
   ·obtain⟨_,hea⟩:=K1 c3
    have hk: ∃x y,t.kids=[x,y]:=by
     rcases hea with h | h
     ·exact Q0 hg h (by simp[Q6])
     ·exact Q0 hg h (by simp[Q6])
    obtain⟨y,z,hk⟩:=hk
    have ey:=Qj y
    have ekd:kid t 0=y:=by simp[kid,hk]
    rw[hk]at e0
    simp only[encTs,ey]at e0
    generalize hkt:ZV t=q at *
    obtain⟨k,e⟩:=q
    simp only at c3 h4
    subst c3
    have ek:=Qj k
    simp only[QL]at h3
    rw[ek]at h4
    simp only[ek]at h3
    cases c4:ofT l k with
    | none=>
     rw[c4,ZR]at h4
     simp only[e0]at h3 p1 p2 p3
     simp[F.f451B,F.f451C,F.f451R,F.f451K,QR,p1,c1,p2,c2,h3,h4,hk,ey,encTs,YA]
    | some u=>
     have eu:=Qj u
     rw[c4,ZG,eu]at h4
     have h5: ∀n o,call F.tb 120 [.str n,.sl o 4 [Qa b,Qa u]] bs=some (.agg (Qa (.mk 3 n 0 [b,u])),bs):=fun n o=>YD n [b,u] o bs (by simp)
     simp only[e0,e1,eu,e2]at h3 p1 p2 p3 h5
     cases c5:isB t Zc
     ·simp only[Zc]at c5
      simp[F.f451B,F.f451C,F.f451R,F.f451K,QR,p1,c1,p2,c2,p3,c5,h3,h4,h5,hk,ey,ekd,YA,X4,X5,encTs,e1,eu,DEC]
     ·simp only[Zc]at c5
      simp[F.f451B,F.f451C,F.f451R,F.f451K,QR,p1,c1,p2,c2,p3,c5,h3,h4,h5,hk,ey,ekd,YA,X4,X5,encTs,e1,eu,Q5]
   ·generalize hkt:ZV t=q at *
    obtain⟨k,e⟩:=q
    simp only at c3
    have ek:=Qj k
    simp only[QL]at h3
    simp only[ek]at h3
    simp only[e0]at h3 p1 p2 p3
    simp[F.f451B,F.f451C,F.f451R,F.f451K,QR,p1,c1,p2,c2,h3,c3,YA]
  ·obtain⟨y,z,hk⟩:=Q0 hg c2 (by simp[Q6])
   have ey:=Qj y
   have ekd:kid t 0=y:=by simp[kid,hk]
   rw[hk]at e0
   simp only[encTs,ey]at e0
   have q:=h2 READ
   simp only[READ]at q
   simp only[QW]at c2
   simp only[e0,e1,e2]at p1 p2 q
   simp[F.f451B,F.f451C,F.f451R,F.f451K,QR,p1,c1,p2,c2,q,hk,ey,ekd,YA,X4,X5,encTs,e1,READ]
 ·obtain⟨y,z,hk⟩:=Q0 hg c1 (by simp[Q6])
  have ey:=Qj y
  have ez:=Qj z
  have ekd:kid t 0=y:=by simp[kid,hk]
  have ekd1:kid t 1=z:=by simp[kid,hk]
  rw[hk]at e0
  simp only[encTs,ey,ez]at e0
  have q:=h2 FST
  have q2:=h2 SND
  simp only[FST]at q
  simp only[SND]at q2
  simp only[Q7]at c1
  simp only[e0,e1,e2]at p1 p2 q q2
  simp[F.f451B,F.f451C,F.f451R,F.f451K,QR,p1,c1,q,q2,hk,ey,ez,ekd,ekd1,YA,X4,X5,encTs,e1,FST,SND]
end Go.Am
namespace Go.Am
set_option maxRecDepth 8000
theorem Gt {x:Tm}: ∀{ks:List Tm},chkL ks=0→x∈ks→Yk x=0
 | [],_,h=>by cases h
 | t:: ts,h,hx=>by
  simp only[chkL]at h
  split at h
  ·rename_i hne;exact absurd h hne
  ·rename_i hne
   rcases List.mem_cons.1 hx with rfl | hx
   ·simpa using hne
   ·exact Gt h hx
theorem GA {x:Tm}: ∀{ks:List Tm},errL ks=0→x∈ks→Yd x=0
 | [],_,h=>by cases h
 | t:: ts,h,hx=>by
  simp only[errL]at h
  split at h
  ·rename_i hne;exact absurd h hne
  ·rename_i hne
   rcases List.mem_cons.1 hx with rfl | hx
   ·simpa using hne
   ·exact GA h hx
theorem Qbe {t x:Tm} (h:Yd t=0) (hx:x∈t.kids):Yd x=0:=by
 obtain⟨k,n,s,ks⟩:=t
 simp only[Yd]at h
 split at h
 ·rename_i hne;exact absurd h hne
 ·exact GA h hx
theorem Qbd {t:Tm} (h:Yd t=0) (hk:t.kind=2):t.kids=[]:=by
 obtain⟨k,n,s,ks⟩:=t
 simp only[Yd]at h
 split at h
 ·rename_i hne;exact absurd h hne
 ·rename_i hne
  obtain⟨_,_,_,b⟩:=Oo (t:= .mk k n s ks) (by simpa using hne)
  exact b (by simp only[Xi]at hk ⊢;omega)
theorem CV {t:Tm} (h:Yd t=0) (hk:t.kids≠[]):t.kind=3:=by
 obtain⟨k,n,s,ks⟩:=t
 simp only[Yd]at h
 split at h
 ·rename_i hne;exact absurd h hne
 ·rename_i hne
  obtain⟨_,_,_,b⟩:=Oo (t:= .mk k n s ks) (by simpa using hne)
  exact Decidable.not_not.1 fun c=>hk (b c)
theorem K5 {t x:Tm} (h:thV t=0) (hx:x∈t.kids):thV x=0:=by
 obtain⟨h1,h2,_⟩:=ZY h
 obtain⟨he,hn,_⟩:=Y6 h1
 have hd:t.depth≤40:=by
  unfold QF at h1
  rw[if_neg (by simpa using he)]at h1
  split at h1
  ·cases h1
  ·omega
 have hxe:=Qbe he hx
 have hnn:=ZO t
 have hdd:=Sh t
 have a:=Ui hx
 have b:=Og hx
 have hk:=CV he (List.ne_nil_of_mem hx)
 have hv:QF x=0:=by
  unfold QF
  rw[if_neg (by simpa using hxe),if_neg (by omega)]
 have hc:Yk x=0:=by
  obtain⟨k,n,s,ks⟩:=t
  simp only[Xi,QJ]at hk hx
  subst hk
  simp only[Yk]at h2
  rw[if_neg (by simp)]at h2
  split at h2
  ·cases h2
  ·split at h2
   ·cases h2
   ·split at h2
    ·cases h2
    ·split at h2
     ·cases h2
     ·exact Gt h2 hx
 unfold thV
 rw[if_neg (by simpa using hv)]
 exact hc
mutual
theorem Qh3: ∀{t x:Tm},thV t=0→x∈QY t→thV x=0
 | .mk k n s ks,x,h,hx=>by
  simp only[QY,List.mem_cons]at hx
  rcases hx with rfl | hx
  ·exact h
  ·exact thV_allL (fun y hy=>K5 h hy) hx
theorem thV_allL: ∀{ts:List Tm} {x:Tm},(∀y∈ts,thV y=0)→x∈allL ts→thV x=0
 | [],x,_,hx=>by simp[allL]at hx
 | t:: ts,x,h,hx=>by
  simp only[allL,List.mem_append]at hx
  rcases hx with hx | hx
  ·exact Qh3 (h t (by simp)) hx
  ·exact thV_allL (fun y hy=>h y (by simp[hy])) hx
end
theorem Qbs {f:Fr} (h:Za f=0): ∀x∈f.t,thV x=0:=fun x hx=>by
 unfold Za at h
 split at h
 ·cases h
 ·split at h
  ·rename_i c;exact absurd h c
  ·have:=OD h x hx
   unfold YF at this
   split at this
   ·rename_i c;exact absurd this c
   ·rename_i c;simpa using c
theorem Qht {t:Tm} {x y:Tm} (h:t.kids=[x,y]):kid t 0=x∧kid t 1=y:=by simp[kid,h]
theorem K2 {l:List Rp} (hl:ROk l) {x:Rp} (hv:thV x.t=0) (hb:x.b.mass < 1000000):
  (∀y∈Zd l x,thV y.t=0∧y.b.mass < 1000000000)∧(Zd l x).length≤2∧((Zd l x).map fun y=>y.t.nodes).sum+1≤x.t.nodes:=by
 obtain⟨_,_,hg,hma,hno⟩:=ZY hv
 have hnn:=ZO x.t
 have two: ∀a b,x.t.kids=[a,b]→thV a=0∧thV b=0∧kid x.t 0=a∧kid x.t 1=b∧a.nodes+b.nodes+1=x.t.nodes:=fun a b h=>by
  obtain⟨k0,k1⟩:=Qht h
  refine⟨K5 hv (by rw[h];simp),K5 hv (by rw[h];simp),k0,k1,?_⟩
  rw[h]at hnn
  simp only[nodesL]at hnn
  omega
 have mk1: ∀n:List UInt8,n.length≤10→(Tm.mk 3 n 0 [x.b]).mass < 1000000000:=fun n hn=>by simp only[Tm.mass,massL,List.length_cons,List.length_nil];omega
 unfold Zd
 cases c1:isB x.t Q7
 ·simp only[Bool.false_eq_true,if_false]
  cases c2:isB x.t QW
  ·simp only[Bool.false_eq_true,if_false]
   by_cases c3: (ZV x.t).2=0
   ·rw[if_neg (by simpa using c3)]
    cases c4:ofT l (ZV x.t).1 with
    | none=>simp;omega
    | some u=>
     obtain⟨_,hea⟩:=K1 c3
     have hk: ∃a b,x.t.kids=[a,b]:=by
      rcases hea with h | h
      ·exact Q0 hg h (by simp[Q6])
      ·exact Q0 hg h (by simp[Q6])
     obtain⟨a,b,hk⟩:=hk
     obtain⟨v1,v2,k0,k1,hn⟩:=two a b hk
     have hum:=MR hl.2 c4
     have hkm:=MN x.t
     have hkn:=Zj (ZV x.t).1
     have hmul:1000000* (ZV x.t).1.nodes≤1000000*401:=by
      refine Nat.mul_le_mul_left _ ?_
      unfold ZV
      rw[if_neg (by simpa using hv)]
      have e0:Qy.nodes=1:=by simp[Qy,Tm.nodes,nodesL]
      have hkd: ∀t i,(kid t i).nodes≤t.nodes+1:=fun t i=>by
       unfold kid
       rw[List.getD_eq_getElem?_getD]
       cases hq:t.kids[i]? with
       | none=>simp only[Option.getD_none];omega
       | some z=>have:=Ui (List.mem_of_getElem? hq);have:=ZO t;simp only[Option.getD_some];omega
      split
      ·simp only;rw[k1];omega
      ·split
       ·simp only;omega
       ·split
        ·simp only;omega
        ·simp only;rw[k1];have:=hkd b 0;omega
     refine⟨?_,by simp,by simp[k0,k1];omega⟩
     intro y hy
     rw[List.mem_singleton]at hy
     subst hy
     refine⟨by rw[k0];exact v1,?_⟩
     simp only[Tm.mass,massL,List.length_cons,List.length_nil]
     have: (if isB x.t Zc=true then Q5 else DEC).length≤4:=by split <;> simp[Q5,DEC]
     omega
   ·rw[if_pos (by simpa using c3)]
    simp;omega
  ·obtain⟨a,b,hk⟩:=Q0 hg c2 (by simp[Q6])
   obtain⟨v1,v2,k0,k1,hn⟩:=two a b hk
   refine⟨?_,by simp,by simp[k0,k1];omega⟩
   intro y hy
   simp only[if_true,List.mem_singleton]at hy
   subst hy
   exact⟨by rw[k0];exact v1,mk1 READ (by simp[READ])⟩
 ·obtain⟨a,b,hk⟩:=Q0 hg c1 (by simp[Q6])
  obtain⟨v1,v2,k0,k1,hn⟩:=two a b hk
  refine⟨?_,by simp,by simp[k0,k1];omega⟩
  intro y hy
  simp only[if_true,List.mem_cons,List.mem_nil_iff,or_false]at hy
  rcases hy with rfl | rfl
  ·exact⟨by rw[k0];exact v1,mk1 FST (by simp[FST])⟩
  ·exact⟨by rw[k1];exact v2,mk1 SND (by simp[SND])⟩
theorem Qgv (f:Fr) (hf:FOk f) (hM:massL f.t < 1000000) (x:Rp) (hx:x.b.mass < big) (pos:Nat) (bs:List (List AV)) (hp:bs[pos]? =some (Qq f)):
  call F.tb 423 [.agg (QR x),.gp pos 0] bs=some (.bool (YN f x.b),bs):=by
 have h:=Dk f hf hM x.b hx bs
 have e:=Qj x.b
 have hte:Qq f=[.sl false 4 (encTs f.s),.sl false 4 (encTs f.t)]:=rfl
 rw[e,hte]at h
 rw[hte]at hp
 rw[Qb F.tb_423 _ _ rfl]
 simp[F.f423B,F.f423C,F.f423R,F.f423K,QR,hp,h]
theorem QaV (l:List Rp) (g:Nat) (cs:List AV) (p:Rp→Bool) (bs:List (List AV)) (hl:l.length < 1000000) (hcs: ∀x∈cs,x.ok=true) (hp: ∀x∈l,call F.tb g (.agg (QR x):: cs) bs=some (.bool (p x),bs)):
  ∀(post pre:List Rp) (o:Bool) (ρ:Nat→AV),l=pre ++ post→pre.any p=false→ρ 0= .sl o 8 (Qr l)→ρ 1= .fn g cs→ρ 7= .int .i64 l.length→ρ 8= .int .i64 pre.length→
  U4 (l.any p) bs (R F.tb (.loop F.f427l0) ρ bs (Qk 0 (Qv F.tb F.f427r0 (Qx F.f427 bs)))):=by
 intro post
 induction post with
 | nil=>
  intro pre o ρ hk hpp h0 h1 h7 h8
  simp only[List.append_nil]at hk
  rw[← hk]at h8 hpp
  rw[Qc F.f427l0.eq_1]
  refine⟨-1,?_,by rw[hpp];simp⟩
  simp[h0,h1,h7,h8,F.f427r0,F.f427R,F.f427K]
 | cons x post IH=>
  intro pre o ρ hk hpp h0 h1 h7 h8
  have hgt:=Z9 (Qp hk)
  have hll:l.length=pre.length+ (post.length+1):=by rw[hk];simp
  have hw1:IntKind.i64.wrap ((pre.length:Int)+1)=(pre.length:Int)+1:=Ql (by omega) (by omega)
  have hlt: (pre.length:Int) < (l.length:Int):=by omega
  have hcall:=hp x (by rw[hk];simp)
  have hcs2: (∀(x:AV),x∈cs→x.ok=true)=True:=eq_true hcs
  have ih:=fun ρ hpp=>IH (pre ++ [x]) o ρ (by rw[hk];simp) hpp
  have es: (QR x).map AV.strip=QR x:=rfl
  have el: (QR x).length=8:=rfl
  have et: (QR x).take 8=QR x:=rfl
  rw[Qc F.f427l0.eq_1]
  cases ho:p x
  ·have ih2:=fun ρ=>ih ρ (by rw[List.any_append,hpp];simp[ho])
   simp[h0,h1,h7,h8,hlt,hgt,es,el,et,hw1,hcall,hcs2,ho,-List.any_eq_false,-List.any_eq_true]
   apply ih2 <;> simp[h0,h1,h7]
  ·have hany:l.any p=true:=List.any_eq_true.2 ⟨x,by rw[hk];simp,ho⟩
   refine⟨pre.length,?_,by rw[hany];simp⟩
   simp[h0,h1,h7,h8,hlt,hgt,es,el,et,hcall,hcs2,ho,F.f427R,F.f427K]
theorem QcS (l:List Rp) (g:Nat) (cs:List AV) (p:Rp→Bool) (o:Bool) (bs:List (List AV)) (hl:l.length < 1000000) (hcs: ∀x∈cs,x.ok=true) (hp: ∀x∈l,call F.tb g (.agg (QR x):: cs) bs=some (.bool (p x),bs)):
  call F.tb 426 [.sl o 8 (Qr l),.fn g cs] bs=some (.bool (l.any p),bs):=by
 have h1:=fun ρ=>QaV l g cs p bs hl hcs hp l [] false ρ rfl rfl
 have hcs2: (∀(x:AV),x∈cs→x.ok=true)=True:=eq_true hcs
 have h2:U4 (l.any p) bs (call F.tb 427 [.sl false 8 (Qr l),.fn g cs] bs):=by
  rw[Qb F.tb_427 _ _ rfl]
  simp[F.f427B,F.f427C,hcs2,-List.any_eq_false,-List.any_eq_true]
  apply h1 <;> simp[QI]
 obtain⟨i,hi,hb⟩:=h2
 rw[Qb F.tb_426 _ _ rfl]
 simp[F.f426B,F.f426C,hi,hcs2,F.f426R,F.f426K,-List.any_eq_false,-List.any_eq_true]
 cases hx:l.any p
 ·rw[hx]at hb;simp at hb;simpa using hb
 ·rw[hx]at hb;simp at hb;simpa using hb
def U5 (f:Fr) (l:List Rp):Bool:=l.any fun x=>YN f x.b
theorem Qgw (f:Fr) (hf:FOk f) (hM:massL f.t < 1000000) (l:List Rp) (hl:l.length < 1000000) (hb: ∀x∈l,x.b.mass < big) (pos:Nat) (o:Bool) (bs:List (List AV)) (hp:bs[pos]? =some (Qq f)):
  call F.tb 426 [.sl o 8 (Qr l),.fn 423 [.gp pos 0]] bs=some (.bool (U5 f l),bs):=
 QcS l 423 [.gp pos 0] (fun x=>YN f x.b) o bs hl (by simp) (fun x hx=>Qgv f hf hM x (hb x hx) pos bs hp)
theorem Qbq (f:Fr) (hf:FOk f) (hM:massL f.t < 1000000) (l:List Rp) (hl:l.length < 1000000) (hb: ∀x∈l,x.b.mass < big) (bs:List (List AV)):
  ∀(post pre:List Rp) (o:Bool) (ρ:Nat→AV),l=pre ++ post→ρ 1= .sl o 8 (Qr l)→ρ 2= .bx (Qq f)→ρ 5= .int .i64 pre.length→
  R F.tb (.loop F.f455l0) ρ bs (Qk 0 (Qv F.tb F.f455r0 (Qx F.f455 bs)))=some (.bool (!U5 f post),bs):=by
 intro post
 induction post with
 | nil=>
  intro pre o ρ hk h1 h2 h5
  simp only[List.append_nil]at hk
  rw[← hk]at h5
  rw[Qc F.f455l0.eq_1]
  simp[h1,h2,h5,QI,U5,F.f455r0,F.f455R,F.f455K]
 | cons x post IH=>
  intro pre o ρ hk h1 h2 h5
  have hgt:=Z9 (Qp hk)
  have hll:l.length=pre.length+ (post.length+1):=by rw[hk];simp
  have hw1:IntKind.i64.wrap ((pre.length:Int)+1)=(pre.length:Int)+1:=Ql (by omega) (by omega)
  have hlt: (pre.length:Int) < (l.length:Int):=by omega
  have hcall:=Do f hf hM x.b (hb x (by rw[hk];simp)) bs
  have ih:=fun ρ=>IH (pre ++ [x]) o ρ (by rw[hk];simp)
  have ed: ∀y:Rp,(QR y).drop 4=Qa y.b:=fun y=>by simp[QR,Qj]
  have hte:Qq f=[.sl false 4 (encTs f.s),.sl false 4 (encTs f.t)]:=rfl
  rw[hte]at hcall h2
  have el:U5 f (x:: post)=(YN f x.b || U5 f post):=rfl
  rw[Qc F.f455l0.eq_1,el]
  cases ho:YN f x.b
  ·rw[ho]at hcall
   simp[-getElem?_pos,h1,h2,h5,QI,hlt,hgt,hw1,ed,hcall]
   apply ih <;> simp[h1,h2,hte]
  ·rw[ho]at hcall
   simp[-getElem?_pos,h1,h2,h5,QI,hlt,hgt,hw1,ed,hcall,F.f455R,F.f455K]
theorem QgF (f:Fr) (hf:FOk f) (hM:massL f.t < 1000000) (l:List Rp) (hl:l.length < 1000000) (hb: ∀x∈l,x.b.mass < big) (o:Bool) (bs:List (List AV)):
  call F.tb 455 [.agg (Qq f),.sl o 8 (Qr l)] bs=some (.bool (!U5 f l),bs):=by
 have h:=fun ρ=>Qbq f hf hM l hl hb bs l [] false ρ rfl
 rw[Qb F.tb_455 _ _ rfl]
 simp[F.f455B,F.f455C]
 apply h <;> simp[QG]
end Go.Am
namespace Go.Am
set_option maxRecDepth 8000
def Z7:Nat→List Tm→List Rp
 | _,[]=>[]
 | i,t:: ts=>⟨t,Xe i⟩:: Z7 (i+1) ts
def ZN (f:Fr):List Rp:=Z7 0 f.t ++ (Zt f).map fun a=>⟨a,a⟩
def Wf (l:List Rp) (os:List Nat):List Rp→Nat→Option (Nat×List Rp)
 | [],_=>none
 | x:: r,i=>if os.contains i || (Zd l x).isEmpty then Wf l os r (i+1)else some (i,Zd l x)
def XU (f:Fr):Nat→List Rp→List Nat→Option (List Rp)
 | 0,_,_=>none
 | n+1,l,os=>match Wf l os l 0 with
  | none=>some l
  | some q=>if U5 f q.2 then none else XU f n (l ++ q.2) (os ++ [q.1])
def phi (os:List Nat):List Rp→Nat→Nat
 | [],_=>0
 | x:: r,i=>(if os.contains i then 0 else x.t.nodes)+phi os r (i+1)
theorem N8 (os:List Nat): ∀(a b:List Rp) (i:Nat),phi os (a ++ b) i=phi os a i+phi os b (i+a.length)
 | [],b,i=>by simp[phi]
 | x:: a,b,i=>by
  simp only[List.cons_append,phi,N8 os a b (i+1),List.length_cons]
  rw[show i+1+a.length=i+ (a.length+1) by omega]
  omega
theorem G6 (os:List Nat): ∀(a:List Rp) (i:Nat),phi os a i≤(a.map fun y=>y.t.nodes).sum
 | [],i=>by simp[phi]
 | x:: a,i=>by
  have:=G6 os a (i+1)
  simp only[phi,List.map_cons,List.sum_cons]
  split <;> omega
theorem MS (os:List Nat) (j:Nat): ∀(a:List Rp) (i:Nat),phi (os ++ [j]) a i≤phi os a i
 | [],i=>by simp[phi]
 | x:: a,i=>by
  have:=MS os j a (i+1)
  simp only[phi]
  by_cases c:os.contains i=true
  ·have c2: (os ++ [j]).contains i=true:=by simp at c ⊢;exact .inl c
   rw[if_pos c,if_pos c2];omega
  ·rw[if_neg c]
   split <;> omega
structure Ut (l:List Rp) (os:List Nat) (n:Nat):Prop where
 ok: ∀x∈l,thV x.t=0∧x.b.mass < 1000000
 len:l.length+2*phi os l 0≤100000
 fuel:phi os l 0 < n
 lt: ∀i∈os,i < l.length
theorem VL {l:List Rp} {os:List Nat} {n:Nat} (h:Ut l os n):ROk l:=
 ⟨by have:=h.len;omega,fun x hx=>⟨by have:=(ZY (h.ok x hx).1).2.2.2.1;omega,(h.ok x hx).2⟩⟩
theorem QbH {f:Fr} {l:List Rp} (h:U5 f l=false): ∀x∈l,x.b.mass≤13200:=fun x hx=>by
 unfold U5 at h
 have h2:=List.any_eq_false.1 h x hx
 unfold YN at h2
 split at h2
 ·exact absurd rfl h2
 ·rename_i c;exact(Y6 (by simpa using c)).2.2
theorem Nf {f:Fr} {l pre post:List Rp} {os:List Nat} {n:Nat} {x:Rp} (h:Ut l os (n+1)) (hk:l=pre ++ x:: post) (hc:os.contains pre.length=false) (hL:U5 f (Zd l x)=false):
  Ut (l ++ Zd l x) (os ++ [pre.length]) n:=by
 obtain⟨hv,hb⟩:=h.ok x (by rw[hk];simp)
 obtain⟨o1,o2,o3⟩:=K2 (VL h) hv hb
 have p1:phi (os ++ [pre.length]) (l ++ Zd l x) 0+1≤phi os l 0:=by
  have a1:=G6 (os ++ [pre.length]) (Zd l x) (0+l.length)
  have a2:=MS os pre.length pre 0
  have a3:=MS os pre.length post (0+pre.length+1)
  have c2: (os ++ [pre.length]).contains (0+pre.length)=true:=by simp
  have c1: ¬os.contains (0+pre.length)=true:=by rw[Nat.zero_add,hc];simp
  rw[N8]
  generalize hm:Zd l x=more at *
  rw[hk,N8,N8]
  simp only[phi]
  rw[if_pos c2,if_neg c1]
  rw[hk]at a1
  omega
 have h1:=h.len
 have h2:=h.fuel
 refine⟨?_,by rw[List.length_append];omega,by omega,?_⟩
 ·intro y hy
  rcases List.mem_append.1 hy with hy | hy
  ·exact h.ok y hy
  ·exact⟨(o1 y hy).1,by have:=QbH hL y hy;omega⟩
 ·intro i hi
  rw[List.length_append]
  rcases List.mem_append.1 hi with hi | hi
  ·have:=h.lt i hi;omega
  ·rw[List.mem_singleton]at hi;subst hi;rw[hk];simp;omega
theorem GN: ∀{l:List Tm} {i:Nat} {x:Rp},x∈Z7 i l→∃j,j < i+l.length∧x.t∈l∧x.b=Xe j
 | [],_,x,h=>by simp[Z7]at h
 | t:: ts,i,x,h=>by
  simp only[Z7,List.mem_cons]at h
  rcases h with rfl | h
  ·exact⟨i,by simp,by simp,rfl⟩
  ·obtain⟨j,h1,h2,h3⟩:=GN h
   exact⟨j,by simp only[List.length_cons];omega,by simp[h2],h3⟩
theorem UB: ∀(l:List Tm) (i:Nat),(Z7 i l).length=l.length
 | [],_=>rfl
 | t:: ts,i=>by simp[Z7,UB ts]
theorem GO: ∀(l:List Tm) (i:Nat),((Z7 i l).map fun y=>y.t.nodes).sum=nodesL l
 | [],_=>rfl
 | t:: ts,i=>by simp only[Z7,List.map_cons,List.sum_cons,GO ts,nodesL]
theorem LQ: ∀{l:List Tm},(∀x∈l,x.nodes≤400)→nodesL l≤400*l.length
 | [],_=>by simp[nodesL]
 | t:: ts,h=>by
  have a:=h t (by simp)
  have b:=LQ (l:=ts) fun x hx=>h x (by simp[hx])
  simp only[nodesL,List.length_cons];omega
theorem Ja: ∀{l:List Tm},(∀x∈l,x.nodes=1)→((l.map fun a=>(⟨a,a⟩:Rp)).map fun y=>y.t.nodes).sum=l.length
 | [],_=>rfl
 | t:: ts,h=>by
  have a:=h t (by simp)
  have b:=Ja (l:=ts) fun x hx=>h x (by simp[hx])
  simp only[List.map_cons,List.sum_cons,b,a,List.length_cons];omega
theorem PV {f:Fr} (h:Za f=0):Ut (ZN f) [] 40000∧(ZN f).length=f.t.length+ (Zt f).length:=by
 have hv:=Qbs h
 have hl:=OE h
 have hfree: ∀x∈Zt f,thV x=0∧x.nodes=1:=fun x hx=>by
  obtain⟨h1,h2,_⟩:=Qbt.1 hx
  have h3:=thV_allL hv h1
  have h4:=Qbd (D5 h3) h2
  have:=ZO x
  rw[h4]at this
  exact⟨h3,by simpa[nodesL]using this⟩
 have hn:nodesL f.t≤400*f.t.length:=LQ fun x hx=>(ZY (hv x hx)).2.2.2.2
 have hfl:=SL f
 have e1: (ZN f).length=f.t.length+ (Zt f).length:=by simp[ZN,UB]
 have hp:phi [] (ZN f) 0≤nodesL f.t+ (Zt f).length:=by
  have:=G6 [] (ZN f) 0
  unfold ZN at this ⊢
  rw[List.map_append,List.sum_append,GO,Ja fun x hx=>(hfree x hx).2]at this
  exact this
 refine⟨⟨?_,by omega,by omega,by simp⟩,e1⟩
 intro x hx
 unfold ZN at hx
 rcases List.mem_append.1 hx with hx | hx
 ·obtain⟨j,h1,h2,h3⟩:=GN hx
  have:=Nn j (by omega)
  exact⟨hv _ h2,by rw[h3];omega⟩
 ·obtain⟨a,ha,rfl⟩:=List.mem_map.1 hx
  obtain⟨h1,h2⟩:=hfree a ha
  have:=(ZY h1).2.2.2.1
  exact⟨h1,by simp only;omega⟩
def Wt (f:Fr):Option (List Rp):=XU f 40000 (ZN f) []
theorem DA (f:Fr): ∀{n:Nat} {l m:List Rp} {os:List Nat},Ut l os n→XU f n l os=some m→∃os' n',Ut m os' n'
 | 0,l,m,os,h,_=>absurd h.fuel (by omega)
 | n+1,l,m,os,h,he=>by
  unfold XU at he
  cases hs:Wf l os l 0 with
  | none=>rw[hs]at he;injection he with he;subst he;exact⟨os,n+1,h⟩
  | some q=>
   rw[hs]at he
   simp only at he
   split at he
   ·cases he
   ·rename_i hL
    have key: ∀(post pre:List Rp),l=pre ++ post→Wf l os post pre.length=some q→∃pre x post,l=pre ++ x:: post∧q=(pre.length,Zd l x)∧os.contains pre.length=false:=by
     intro post
     induction post with
     | nil=>intro pre _ h;simp[Wf]at h
     | cons y post IH=>
      intro pre hk h
      unfold Wf at h
      split at h
      ·exact IH (pre ++ [y]) (by rw[hk];simp) (by simpa using h)
      ·rename_i c
       simp only[Bool.or_eq_true,not_or,Bool.not_eq_true]at c
       exact⟨pre,y,post,hk,by injection h with h;exact h.symm,c.1⟩
    obtain⟨pre,x,post,hk,hq,hc⟩:=key l [] rfl hs
    subst hq
    exact DA f (Nf h hk hc (by simpa using hL)) he
theorem T5 {f:Fr} (h:Za f=0) {m:List Rp} (he:Wt f=some m): ∃os n,Ut m os n:=DA f (PV h).1 he
end Go.Am
