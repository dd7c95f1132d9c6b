/-
  Sc17, Sc18, Sc19, Sc20, AmMemo, ScMD.
-/
import Derived.Test.YtpgbndmkiiakaaaGreatDoorG25
import Derived.Test.YtpgbndmkiiakaaaGreatDoorG14
import Derived.KernelRfl
set_option linter.unusedVariables false
set_option linter.unusedSimpArgs false
namespace Go.Am
set_option maxRecDepth 8000
theorem PR (a b:Tm) (bs:List (List AV)):call F.tb 459 [.agg (Qa a),.agg (Qa b)] bs=some (.agg (ZH ⟨a,b,false⟩),bs):=by
 have ea:=Qj a
 have eb:=Qj b
 rw[Qb F.tb_459 _ _ rfl,VU]
 simp[F.f459B,F.f459C,F.f459R,F.f459K,ea,eb]
theorem Nt {n:Nat} (h:n≤2000000):n*120≤140737488355328:=by omega
structure TG (ρ:Nat→AV) (l:List Rp) (i:Nat) (g:Bool) (x:Rp) (ts:List Tst):Prop where
 h0:ρ 0= .sl false 8 (Qr l)
 h1:ρ 1= .int .i64 i
 h2:ρ 2= .bool g
 h7:ρ 7= .bx (Qa x.t)
 h8:ρ 8= .bx (Qa x.b)
 h9:ρ 9= .sl true 9 (QK ts)
theorem QkQ {l:List Rp} {x:Rp} {i:Nat} {g:Bool} {bs:List (List AV)} {ts:List Tst} (hx:x.t.mass < 1000000) (hl:ts.length < 1000000) (C:AC) (K:Kn) (X:Out)
  (hX: ∀ρ,TG ρ l i g x (ts ++ tsB x)→R F.tb C ρ bs K=X) (ρ:Nat→AV) (h:TG ρ l i g x ts):
  R F.tb F.f458r0.fstS ρ bs (Qv F.tb C K)=X:=by
 obtain⟨h0,h1,h2,h7,h8,h9⟩:=h
 have hp:=PP x.t bs hx
 have hc:=PR x.b x.t bs
 have e1:=Qj x.t
 have e2:=Qj x.b
 have hb:=Nt (n:=ts.length+1) (by omega)
 have hln:=X8 ⟨x.b,x.t,false⟩
 have hst:=Xb ⟨x.b,x.t,false⟩
 cases c:Yh x.t
 ·rw[c]at hp
  have e:ts ++ tsB x=ts:=by simp[tsB,c]
  rw[e]at hX
  rw[e1]at hp h7
  simp[AC.fstS,F.f458r0,h7,hp]
  refine hX _ ⟨?_,?_,?_,?_,?_,?_⟩ <;> simp[h0,h1,h2,h7,h8,h9,e1]
 ·rw[c]at hp
  have e:QK (ts ++ tsB x)=QK ts ++ [ZH ⟨x.b,x.t,false⟩]:=by simp[tsB,c,QK]
  rw[e1]at hp h7 hc
  rw[e2]at hc h8
  generalize ZH ⟨x.b,x.t,false⟩=q at *
  simp[AC.fstS,F.f458r0,h7,h8,h9,hp,hc,Y3,hb,hln,hst]
  refine hX _ ⟨?_,?_,?_,?_,?_,?_⟩ <;> simp[h0,h1,h2,h7,h8,h9,e1,e2,e]
theorem QkR {l:List Rp} {x:Rp} {i:Nat} {g:Bool} {bs:List (List AV)} {ts:List Tst} (hR:ROk l) (hx:x.t.mass < 1000000) (hl:ts.length < 1000000) (C:AC) (K:Kn) (X:Out)
  (hX: ∀ρ,TG ρ l i g x (ts ++ tsC l x)→R F.tb C ρ bs K=X) (ρ:Nat→AV) (h:TG ρ l i g x ts):
  R F.tb F.f458r0.sndS.fstS ρ bs (Qv F.tb C K)=X:=by
 obtain⟨h0,h1,h2,h7,h8,h9⟩:=h
 have hp:=Dn l hR x.t hx false bs
 have e1:=Qj x.t
 have e2:=Qj x.b
 have hb:=Nt (n:=ts.length+1) (by omega)
 cases c:XS l x.t with
 | none=>
  rw[c,ZR]at hp
  have e:ts ++ tsC l x=ts:=by simp[tsC,c]
  rw[e]at hX
  rw[e1]at hp h7
  simp[AC.fstS,AC.sndS,F.f458r0,h0,h7,hp]
  refine hX _ ⟨?_,?_,?_,?_,?_,?_⟩ <;> simp[h0,h1,h2,h7,h8,h9,e1]
 | some u=>
  rw[c,ZG]at hp
  have hc:=PR x.b u bs
  have hln:=X8 ⟨x.b,u,false⟩
  have hst:=Xb ⟨x.b,u,false⟩
  have e:QK (ts ++ tsC l x)=QK ts ++ [ZH ⟨x.b,u,false⟩]:=by simp[tsC,c,QK]
  have eu:=Qj u
  rw[e1]at hp h7
  rw[eu]at hp hc
  rw[e2]at hc h8
  generalize ZH ⟨x.b,u,false⟩=q at *
  simp[AC.fstS,AC.sndS,F.f458r0,h0,h7,h8,h9,hp,hc,Y3,hb,hln,hst]
  refine hX _ ⟨?_,?_,?_,?_,?_,?_⟩ <;> simp[h0,h1,h2,h7,h8,h9,e1,e2,e]
theorem QkS {l:List Rp} {x:Rp} {i:Nat} {g:Bool} {bs:List (List AV)} {ts:List Tst} (hl:ts.length < 1000000) (C:AC) (K:Kn) (X:Out)
  (hX: ∀ρ,TG ρ l i g x (ts ++ tsD x g)→R F.tb C ρ bs K=X) (ρ:Nat→AV) (h:TG ρ l i g x ts):
  R F.tb F.f458r0.sndS.sndS.fstS ρ bs (Qv F.tb C K)=X:=by
 obtain⟨h0,h1,h2,h7,h8,h9⟩:=h
 have hc:=PR x.b x.b bs
 have e2:=Qj x.b
 have hb:=Nt (n:=ts.length+1) (by omega)
 have hln:=X8 ⟨x.b,x.b,false⟩
 have hst:=Xb ⟨x.b,x.b,false⟩
 cases g
 ·have e:ts ++ tsD x false=ts:=by simp[tsD]
  rw[e]at hX
  simp[AC.fstS,AC.sndS,F.f458r0,h2]
  refine hX _ ⟨?_,?_,?_,?_,?_,?_⟩ <;> simp[h0,h1,h2,h7,h8,h9]
 ·have e:QK (ts ++ tsD x true)=QK ts ++ [ZH ⟨x.b,x.b,false⟩]:=by simp[tsD,QK]
  rw[e2]at hc h8
  generalize ZH ⟨x.b,x.b,false⟩=q at *
  simp[AC.fstS,AC.sndS,F.f458r0,h2,h8,h9,hc,Y3,hb,hln,hst]
  refine hX _ ⟨?_,?_,?_,?_,?_,?_⟩ <;> simp[h0,h1,h2,h7,h8,h9,e2,e]
theorem QkT {l:List Rp} {x:Rp} {i:Nat} {g:Bool} {bs:List (List AV)} {ts:List Tst} (hR:ROk l) (hv:thV x.t=0) (hx:x.b.mass < 1000000) (hl:ts.length < 1000000) (C:AC) (K:Kn) (X:Out)
  (hX: ∀ρ,TG ρ l i g x (ts ++ tsE l x)→R F.tb C ρ bs K=X) (ρ:Nat→AV) (h:TG ρ l i g x ts):
  R F.tb F.f458r0.sndS.sndS.sndS.fstS ρ bs (Qv F.tb C K)=X:=by
 obtain⟨h0,h1,h2,h7,h8,h9⟩:=h
 obtain⟨_,_,hg,hma,hno⟩:=ZY hv
 have p2:=VJ x.t QW bs
 simp only[QW]at p2
 have hb:=Nt (n:=ts.length+1) (by omega)
 have e1:=Qj x.t
 have e2:=Qj x.b
 cases c:isB x.t QW
 ·have e:ts ++ tsE l x=ts:=by simp[tsE,Vv,c]
  simp only[QW]at c
  rw[c]at p2
  rw[e]at hX
  rw[e1]at p2 h7
  simp[AC.fstS,AC.sndS,F.f458r0,h7,p2]
  refine hX _ ⟨?_,?_,?_,?_,?_,?_⟩ <;> simp[h0,h1,h2,h7,h8,h9,e1]
 ·obtain⟨y,z,hk⟩:=Q0 hg c (by simp[Q6])
  have ekd:kid x.t 1=z:=by simp[kid,hk]
  have hmm:=Qo x.t
  rw[hk]at hmm
  simp only[massL]at hmm
  have hpm: (Tm.mk 3 PK 0 [z]).mass < 1000000:=by simp only[Tm.mass,massL,PK,List.length_cons,List.length_nil];omega
  have ez:=Qj z
  have q1: ∀o,call F.tb 120 [.str [112,107],.sl o 4 [Qa z]] bs=some (.agg (Qa (.mk 3 PK 0 [z])),bs):=fun o=>YD PK [z] o bs (by simp)
  have q2:=NW l hR (.mk 3 PK 0 [z]) false bs hpm
  have e3: ∀n ks,Qa (.mk 3 n 0 ks)=[.int .i64 3,.str n,.int .i64 0,.sl false 4 (encTs ks)]:=fun n ks=>by simp[Qa]
  rw[hk]at e1
  simp only[encTs]at e1
  cases c2:ofT l (.mk 3 PK 0 [z])with
  | none=>
   rw[c2,ZR]at q2
   have e:ts ++ tsE l x=ts:=by simp[tsE,Vv,c,ekd,c2]
   simp only[QW]at c
   rw[c]at p2
   rw[e]at hX
   rw[e1]at p2 h7
   simp only[e3,ez,encTs]at q1 q2
   simp only[ez]at p2 h7
   simp[AC.fstS,AC.sndS,F.f458r0,h0,h7,p2,q1,q2]
   refine hX _ ⟨?_,?_,?_,?_,?_,?_⟩ <;> simp[h0,h1,h2,h7,h8,h9,e1,ez]
  | some u=>
   rw[c2,ZG]at q2
   have hc:=PR (.mk 3 QT 0 [x.b,u]) (.mk 3 READ 0 [x.b]) bs
   have hln:=X8 ⟨.mk 3 QT 0 [x.b,u],.mk 3 READ 0 [x.b],false⟩
   have hst:=Xb ⟨.mk 3 QT 0 [x.b,u],.mk 3 READ 0 [x.b],false⟩
   have e:QK (ts ++ tsE l x)=QK ts ++ [ZH ⟨.mk 3 QT 0 [x.b,u],.mk 3 READ 0 [x.b],false⟩]:=by simp[tsE,Vv,c,ekd,c2,QK]
   generalize ZH ⟨.mk 3 QT 0 [x.b,u],.mk 3 READ 0 [x.b],false⟩=q at *
   simp only[QW]at c
   rw[c]at p2
   have eu:=Qj u
   have q3: ∀o,call F.tb 120 [.str [111,112,101,110],.sl o 4 [Qa x.b,Qa u]] bs=some (.agg (Qa (.mk 3 QT 0 [x.b,u])),bs):=fun o=>YD QT [x.b,u] o bs (by simp)
   have q4: ∀o,call F.tb 120 [.str [114,101,97,100],.sl o 4 [Qa x.b]] bs=some (.agg (Qa (.mk 3 READ 0 [x.b])),bs):=fun o=>YD READ [x.b] o bs (by simp)
   rw[e1]at p2 h7
   rw[e2]at h8
   simp only[e3,ez,e2,eu,encTs]at q1 q2 q3 q4 hc
   simp only[ez]at p2 h7
   simp[AC.fstS,AC.sndS,F.f458r0,h0,h7,h8,h9,p2,q1,q2,q3,q4,hc,hb,Y3,hln,hst]
   refine hX _ ⟨?_,?_,?_,?_,?_,?_⟩ <;> simp[h0,h1,h2,h7,h8,h9,e1,ez,e2,e]
theorem QkP {l:List Rp} {x:Rp} {i:Nat} {g:Bool} {bs:List (List AV)} {ts:List Tst} (hR:ROk l) (hv:thV x.t=0) (hx:x.b.mass < 1000000) (hl:ts.length < 900000) (ρ:Nat→AV) (h:TG ρ l i g x ts):
  R F.tb F.f458r0 ρ bs (Qx F.f458 bs)=some (.sl false 9 (QK (ts ++ tsB x ++ tsC l x ++ tsD x g ++ tsE l x)),bs):=by
 obtain⟨_,_,hg,hma,hno⟩:=ZY hv
 have n1: (tsB x).length≤1:=by unfold tsB;split <;> simp
 have n2: (tsC l x).length≤1:=by unfold tsC;split <;> simp
 have n3: (tsD x g).length≤1:=by unfold tsD;split <;> simp
 have e1:F.f458r0= .seq F.f458r0.fstS F.f458r0.sndS:=rfl
 rw[e1,U9]
 refine QkQ (by omega) (by omega) _ _ _ ?_ ρ h
 intro ρ h
 have e2:F.f458r0.sndS= .seq F.f458r0.sndS.fstS F.f458r0.sndS.sndS:=rfl
 rw[e2,U9]
 refine QkR hR (by omega) (by rw[List.length_append];omega) _ _ _ ?_ ρ h
 intro ρ h
 have e3:F.f458r0.sndS.sndS= .seq F.f458r0.sndS.sndS.fstS F.f458r0.sndS.sndS.sndS:=rfl
 rw[e3,U9]
 refine QkS (by simp only[List.length_append];omega) _ _ _ ?_ ρ h
 intro ρ h
 have e4:F.f458r0.sndS.sndS.sndS= .seq F.f458r0.sndS.sndS.sndS.fstS F.f458r0.sndS.sndS.sndS.sndS:=rfl
 rw[e4,U9]
 refine QkT hR hv hx (by simp only[List.length_append];omega) _ _ _ ?_ ρ h
 intro ρ h
 obtain⟨h0,h1,h2,h7,h8,h9⟩:=h
 have hgp:=WI (ts ++ tsB x ++ tsC l x ++ tsD x g ++ tsE l x)
 generalize ts ++ tsB x ++ tsC l x ++ tsD x g ++ tsE l x=Q at *
 simp[AC.fstS,AC.sndS,F.f458r0,h9,hgp,F.f458R,F.f458K]
theorem QkO {l:List Rp} {x:Rp} {i:Nat} {g:Bool} {bs:List (List AV)} (hR:ROk l) (hil:i≤l.length) (hx:x.t.mass < 1000000∧x.b.mass < 1000000) (C:AC) (K:Kn) (X:Out):
  ∀(post pre:List Rp) (ts:List Tst) (ρ:Nat→AV),l.take i=pre ++ post→ts.length≤pre.length→TG ρ l i g x ts→ρ 10= .int .i64 pre.length→
   (∀ρ,TG ρ l i g x (ts ++ (post.filter fun y=>decide (Qm y.t x.t=0)).map fun y=>⟨x.b,y.b,false⟩)→R F.tb C ρ bs K=X)→
  R F.tb (.loop F.f458l0) ρ bs (Qk 0 (Qv F.tb C K))=X:=by
 have hlen:=hR.1
 have hti: (l.take i).length=i:=by simp;omega
 intro post
 induction post with
 | nil=>
  intro pre ts ρ hk htl h h10 hX
  simp only[List.append_nil]at hk
  rw[← hk,hti]at h10
  obtain⟨h0,h1,h2,h7,h8,h9⟩:=h
  rw[Qc F.f458l0.eq_1]
  simp[h1,h10]
  refine hX _ ⟨?_,?_,?_,?_,?_,?_⟩ <;> simp[h0,h1,h2,h7,h8,h9]
 | cons y post IH=>
  intro pre ts ρ hk htl h h10 hX
  have hll:i=pre.length+ (post.length+1):=by rw[← hti,hk];simp
  have hly:l[pre.length]? =some y:=by
   have h1: (l.take i)[pre.length]? =some y:=by rw[hk];simp
   rw[List.getElem?_take,if_pos (by omega)]at h1
   exact h1
  have hg:=Z9 hly
  have hw1:IntKind.i64.wrap ((pre.length:Int)+1)=(pre.length:Int)+1:=Ql (by omega) (by omega)
  have hlt: (pre.length:Int) < (i:Int):=by omega
  obtain⟨hym,hyb⟩:=hR.2 y (List.mem_of_getElem? hly)
  have hs:=Z8 y.t x.t bs (by unfold big;omega) (by unfold big;omega)
  have hc:=PR x.b y.b bs
  have hln:=X8 ⟨x.b,y.b,false⟩
  have hst:=Xb ⟨x.b,y.b,false⟩
  have hb:=Nt (n:=ts.length+1) (by omega)
  have i1:=fun ρ=>IH (pre ++ [y]) ts ρ (by rw[hk];simp) (by simp;omega)
  have i2:=fun ρ=>IH (pre ++ [y]) (ts ++ [⟨x.b,y.b,false⟩]) ρ (by rw[hk];simp) (by simp;omega)
  obtain⟨h0,h1,h2,h7,h8,h9⟩:=h
  have e:QK (ts ++ [⟨x.b,y.b,false⟩])=QK ts ++ [ZH ⟨x.b,y.b,false⟩]:=by simp[QK]
  have e1:=Qj x.t
  have e2:=Qj x.b
  have e3:=Qj y.t
  have e4:=Qj y.b
  have er:QR y=[.int .i64 y.t.kind,.str y.t.name,.int .i64 y.t.sort,.sl false 4 (encTs y.t.kids),.int .i64 y.b.kind,.str y.b.name,.int .i64 y.b.sort,.sl false 4 (encTs y.b.kids)]:=rfl
  rw[er]at hg
  rw[e1,e3]at hs
  rw[e2,e4]at hc
  rw[e1]at h7
  rw[e2]at h8
  generalize ZH ⟨x.b,y.b,false⟩=q at *
  rw[Qc F.f458l0.eq_1]
  by_cases c:Qm y.t x.t=0
  ·simp[-getElem?_pos,Yi,h0,h1,h10,hg,hlt,hw1,h7,h8,h9,hs,c,hc,hln,hst,hb,Y3]
   refine i2 _ ⟨?_,?_,?_,?_,?_,?_⟩ ?_ (fun ρ h=>hX ρ (by simpa[c]using h)) <;> simp[h0,h1,h2,h7,h8,h9,e1,e2,e]
  ·simp[-getElem?_pos,Yi,h0,h1,h10,hg,hlt,hw1,h7,h8,h9,hs,c]
   refine i1 _ ⟨?_,?_,?_,?_,?_,?_⟩ ?_ (fun ρ h=>hX ρ (by simpa[c]using h)) <;> simp[h0,h1,h2,h7,h8,h9,e1,e2]
theorem QgH {l:List Rp} (hR:ROk l) (hl:l.length < 200000) {x:Rp} {i:Nat} {g:Bool} (hi:l[i]? =some x) (hv:thV x.t=0) (hx:x.b.mass < 1000000) (o:Bool) (bs:List (List AV)):
  call F.tb 458 [.sl o 8 (Qr l),.int .i64 i,.bool g] bs=some (.sl false 9 (QK (Yy l x i g)),bs):=by
 obtain⟨_,_,hg,hma,hno⟩:=ZY hv
 have hil:=(List.getElem?_eq_some_iff.1 hi).1
 have hgt:=Z9 hi
 have hxm:x.t.mass < 1000000∧x.b.mass < 1000000:=⟨by omega,hx⟩
 have hloop:=fun ρ=>QkO (l:=l) (x:=x) (i:=i) (g:=g) (bs:=bs) hR (by omega) hxm F.f458r0 (Qx F.f458 bs)
  (some (.sl false 9 (QK (Yy l x i g)),bs)) (l.take i) [] [] ρ rfl (by simp)
 have e1:=Qj x.t
 have e2:=Qj x.b
 have er:QR x=[.int .i64 x.t.kind,.str x.t.name,.int .i64 x.t.sort,.sl false 4 (encTs x.t.kids),.int .i64 x.b.kind,.str x.b.name,.int .i64 x.b.sort,.sl false 4 (encTs x.b.kids)]:=rfl
 rw[er]at hgt
 rw[Qb F.tb_458 _ _ rfl]
 simp[-getElem?_pos,Yi,F.f458B,F.f458C,hgt,QI]
 refine hloop _ ⟨?_,?_,?_,?_,?_,?_⟩ ?_ (fun ρ h=> ?_) <;> (try simp[e1,e2,QK])
 have hfl: (tsA l x i).length≤i:=by
  unfold tsA
  rw[List.length_map]
  have:=List.length_filter_le (fun y:Rp=>decide (Qm y.t x.t=0)) (l.take i)
  have h2: (l.take i).length≤i:=by simp;omega
  omega
 exact QkP hR hv hx (ts:=tsA l x i) (by omega) ρ h
end Go.Am
namespace Go.Am
set_option maxRecDepth 8000
def S7 (f:Fr) (l:List Rp) (x:Rp):Bool:=(WY l x).any (YN f)
theorem JC {l:List Rp} (hR:ROk l) {x:Rp} (hv:thV x.t=0) (hx:x.b.mass < 1000000): ∀y∈WY l x,y.mass < big:=by
 obtain⟨_,_,hg,hma,hno⟩:=ZY hv
 intro y hy
 unfold WY at hy
 rcases List.mem_append.1 hy with hy | hy
 ·unfold WV at hy
  cases c:XS l x.t with
  | none=>rw[c]at hy;cases hy
  | some u=>
   rw[c,List.mem_singleton]at hy
   subst hy
   have:=H4 hR (by omega) (by omega) c
   unfold big;omega
 ·unfold Xt Vv at hy
  cases c:isB x.t QW
  ·rw[c]at hy;simp at hy
  ·rw[c]at hy
   obtain⟨y',z,hk⟩:=Q0 hg c (by simp[Q6])
   have ekd:kid x.t 1=z:=by simp[kid,hk]
   have hnn:=ZO x.t
   have hmm:=Qo x.t
   rw[hk]at hnn hmm
   simp only[nodesL,massL]at hnn hmm
   have hpm: (Tm.mk 3 PK 0 [z]).mass < 1000000:=by simp only[Tm.mass,massL,PK,List.length_cons,List.length_nil];omega
   have hpn: (Tm.mk 3 PK 0 [z]).nodes≤402:=by simp only[Tm.nodes,nodesL];omega
   rw[ekd]at hy
   simp only[if_true]at hy
   cases c2:ofT l (.mk 3 PK 0 [z])with
   | none=>rw[c2]at hy;simp at hy
   | some u=>
    rw[c2]at hy
    have hum:=DV hR hpm hpn c2
    simp only[Option.map_some,List.mem_cons,List.mem_nil_iff,or_false]at hy
    rcases hy with rfl | rfl
    ·simp only[Tm.mass,massL,QT,List.length_cons,List.length_nil,big];omega
    ·simp only[Tm.mass,massL,READ,List.length_cons,List.length_nil,big];omega
theorem QgG (f:Fr) (hf:FOk f) (hM:massL f.t < 1000000) {l:List Rp} (hR:ROk l) {x:Rp} {i:Nat} (hi:l[i]? =some x) (hv:thV x.t=0) (hx:x.b.mass < 1000000) (o:Bool) (bs:List (List AV)):
  call F.tb 457 [.agg (Qq f),.sl o 8 (Qr l),.int .i64 i] bs=some (.bool (!S7 f l x),bs):=by
 obtain⟨_,_,hg,hma,hno⟩:=ZY hv
 have hmm:=JC hR hv hx
 have hgt:=Z9 hi
 have hp:=Dn l hR x.t (by omega) false bs
 have p2:=VJ x.t QW bs
 simp only[QW]at p2
 have hls:=fun r hr=>Do f hf hM r hr bs
 have e1:=Qj x.t
 have e2:=Qj x.b
 have er:QR x=[.int .i64 x.t.kind,.str x.t.name,.int .i64 x.t.sort,.sl false 4 (encTs x.t.kids),.int .i64 x.b.kind,.str x.b.name,.int .i64 x.b.sort,.sl false 4 (encTs x.b.kids)]:=rfl
 have hte:Qq f=[.sl false 4 (encTs f.s),.sl false 4 (encTs f.t)]:=rfl
 rw[er]at hgt
 rw[hte]at hls ⊢
 unfold S7
 unfold WY at hmm ⊢
 rw[Qb F.tb_457 _ _ rfl]
 have key: ∀C:Bool,(∀y∈Xt l x,y.mass < big)→∀ρ:Nat→AV,ρ 1= .sl false 8 (Qr l)→ρ 3= .bx [.sl false 4 (encTs f.s),.sl false 4 (encTs f.t)]→ρ 7= .bx (Qa x.t)→ρ 8= .bx (Qa x.b)→
   R F.tb F.f457C.sndS.sndS.sndS ρ bs (Qx F.f457 bs)=some (.bool (!(Xt l x).any (YN f)),bs):=by
  intro _ hmE ρ h1 h3 h7 h8
  cases c:isB x.t QW
  ·have em:Xt l x=[]:=by simp[Xt,Vv,c]
   simp only[QW]at c
   rw[c,e1]at p2
   rw[e1]at h7
   rw[em]
   simp[AC.sndS,F.f457C,h1,h3,h7,p2,F.f457R,F.f457K]
  ·obtain⟨y,z,hk⟩:=Q0 hg c (by simp[Q6])
   have ekd:kid x.t 1=z:=by simp[kid,hk]
   have hmx:=Qo x.t
   rw[hk]at hmx
   simp only[massL]at hmx
   have hpm: (Tm.mk 3 PK 0 [z]).mass < 1000000:=by simp only[Tm.mass,massL,PK,List.length_cons,List.length_nil];omega
   have ez:=Qj z
   have q1: ∀o,call F.tb 120 [.str [112,107],.sl o 4 [Qa z]] bs=some (.agg (Qa (.mk 3 PK 0 [z])),bs):=fun o=>YD PK [z] o bs (by simp)
   have q2:=NW l hR (.mk 3 PK 0 [z]) false bs hpm
   have e3: ∀n ks,Qa (.mk 3 n 0 ks)=[.int .i64 3,.str n,.int .i64 0,.sl false 4 (encTs ks)]:=fun n ks=>by simp[Qa]
   rw[hk]at e1
   simp only[encTs]at e1
   cases c2:ofT l (.mk 3 PK 0 [z])with
   | none=>
    have em:Xt l x=[]:=by simp[Xt,Vv,c,ekd,c2]
    rw[c2,ZR]at q2
    simp only[QW]at c
    rw[c,e1]at p2
    rw[e1]at h7
    simp only[e3,ez,encTs]at q1 q2
    simp only[ez]at p2 h7
    rw[em]
    simp[AC.sndS,F.f457C,h1,h3,h7,p2,q1,q2,F.f457R,F.f457K]
   | some u=>
    have em:Xt l x=[.mk 3 QT 0 [x.b,u],.mk 3 READ 0 [x.b]]:=by simp[Xt,Vv,c,ekd,c2]
    rw[em]at hmE
    have l1:=hls (.mk 3 QT 0 [x.b,u]) (hmE _ (by simp))
    have l2:=hls (.mk 3 READ 0 [x.b]) (hmE _ (by simp))
    have eA: ([Tm.mk 3 QT 0 [x.b,u],Tm.mk 3 READ 0 [x.b]].any (YN f))=(YN f (.mk 3 QT 0 [x.b,u]) || YN f (.mk 3 READ 0 [x.b])):=by simp
    rw[c2,ZG]at q2
    simp only[QW]at c
    rw[c,e1]at p2
    rw[e1]at h7
    rw[e2]at h8
    have eu:=Qj u
    have q3: ∀o,call F.tb 120 [.str [111,112,101,110],.sl o 4 [Qa x.b,Qa u]] bs=some (.agg (Qa (.mk 3 QT 0 [x.b,u])),bs):=fun o=>YD QT [x.b,u] o bs (by simp)
    have q4: ∀o,call F.tb 120 [.str [114,101,97,100],.sl o 4 [Qa x.b]] bs=some (.agg (Qa (.mk 3 READ 0 [x.b])),bs):=fun o=>YD READ [x.b] o bs (by simp)
    simp only[e3,ez,e2,eu,encTs]at q1 q2 q3 q4 l1 l2
    simp only[ez]at p2 h7
    rw[em,eA]
    generalize YN f (.mk 3 QT 0 [x.b,u])=b1 at *
    generalize YN f (.mk 3 READ 0 [x.b])=b2 at *
    cases b1 <;> cases b2 <;> simp[AC.sndS,F.f457C,h1,h3,h7,h8,p2,q1,q2,q3,q4,l1,l2,F.f457R,F.f457K]
 have key:=key true (fun y hy=>hmm y (List.mem_append_right _ hy))
 have ec: ∀(A:List Tm),(WV l x ++ Xt l x).any (YN f)=((WV l x).any (YN f) || (Xt l x).any (YN f)):=fun _=>List.any_append
 rw[ec []]
 have es:F.f457C.sndS.sndS= .seq F.f457C.sndS.sndS.fstS F.f457C.sndS.sndS.sndS:=rfl
 have es2:F.f457C= .seq F.f457C.fstS (.seq F.f457C.sndS.fstS (.seq F.f457C.sndS.sndS.fstS F.f457C.sndS.sndS.sndS)):=rfl
 rw[F.f457B,es2]
 generalize F.f457C.sndS.sndS.sndS=C at key ⊢
 generalize (Xt l x).any (YN f)=V at *
 cases c:XS l x.t with
 | none=>
  have em:WV l x=[]:=by simp[WV,c]
  rw[c,ZR,e1]at hp
  rw[em]
  simp[-getElem?_pos,Yi,AC.fstS,AC.sndS,F.f457C,hgt,hp,QG]
  apply key <;> simp[e1,e2,hte]
 | some u=>
  have em:WV l x=[u]:=by simp[WV,c]
  have l1:=hls u (hmm u (by rw[em];simp))
  have eu:=Qj u
  rw[c,ZG,e1,eu]at hp
  rw[eu]at l1
  rw[em]
  have eA: ([u].any (YN f))=YN f u:=by simp
  rw[eA]
  generalize YN f u=b1 at *
  cases b1
  ·simp[-getElem?_pos,Yi,AC.fstS,AC.sndS,F.f457C,hgt,hp,l1,QG]
   apply key <;> simp[e1,e2,hte]
  ·simp[-getElem?_pos,Yi,AC.fstS,AC.sndS,F.f457C,hgt,hp,l1,QG,F.f457R,F.f457K]
end Go.Am
namespace Go.Am
set_option maxRecDepth 8000
def tsR (f:Fr) (l:List Rp) (g:Nat):List Rp→Nat→Option (List Tst)
 | [],_=>some []
 | x:: r,i=>if S7 f l x then none else(tsR f l g r (i+1)).map (Yy l x i (decide (g≤i))++ ·)
def SA (f:Fr):Option (List Tst):=match Wt f with
 | none=>none
 | some l=>tsR f l (ZN f).length l 0
def Uf (r:Option (List Tst)):AV:=match r with
 | some ts=> .tup [.sl false 9 (QK ts),.int .i64 0]
 | none=> .tup [.sl false 9 [],.int .i64 3]
theorem OC (l:List Rp) (x:Rp) (i:Nat) (g:Bool) (hi:i≤100000): (Yy l x i g).length≤100004:=by
 have n1: (tsB x).length≤1:=by unfold tsB;split <;> simp
 have n2: (tsC l x).length≤1:=by unfold tsC;split <;> simp
 have n3: (tsD x g).length≤1:=by unfold tsD;split <;> simp
 have n5: (tsE l x).length≤1:=by unfold tsE;split <;> simp
 have n4: (tsA l x i).length≤i:=by
  unfold tsA
  rw[List.length_map]
  have:=List.length_filter_le (fun y:Rp=>decide (Qm y.t x.t=0)) (l.take i)
  have h2: (l.take i).length≤i:=List.length_take_le _ _
  omega
 unfold Yy
 simp only[List.length_append]
 omega
theorem DR {n:Nat} (h:n≤1000000000000):n*120≤140737488355328:=by omega
theorem Qgy (f:Fr) (hf:FOk f) (hM:massL f.t < 1000000) (x:Tm) (hx:x.mass < big) (pos:Nat) (bs:List (List AV)) (hp:bs[pos]? =some (Qq f)):
  call F.tb 431 [.agg (Qa x),.gp pos 0] bs=some (.bool (YN f x),bs):=by
 have h:=Dk f hf hM x hx bs
 have e:=Qj x
 have hte:Qq f=[.sl false 4 (encTs f.s),.sl false 4 (encTs f.t)]:=rfl
 rw[e,hte]at h
 rw[hte]at hp
 rw[Qb F.tb_431 _ _ rfl]
 simp[F.f431B,F.f431C,F.f431R,F.f431K,e,hp,h]
theorem QkJ (f:Fr) (hf:FOk f) (hM:massL f.t < 1000000) (bs:List (List AV)) (g:Nat) {l:List Rp} {os:List Nat} {n:Nat} (hI:Ut l os n):
  ∀(post pre:List Rp) (ts:List Tst) (o:Bool) (ρ:Nat→AV),l=pre ++ post→ts.length≤pre.length*100004→ρ 1= .gp bs.length 0→ρ 4= .sl o 8 (Qr l)→ρ 5= .int .i64 g→ρ 7= .sl true 9 (QK ts)→ρ 20= .sl false 8 (Qr l)→ρ 21= .int .i64 l.length→ρ 22= .int .i64 pre.length→
  R F.tb (.loop F.f413l0) ρ (bs ++ [Qq f]) (Qk 0 (Qv F.tb F.f413r0 (Qx F.f413 bs)))=some (Uf ((tsR f l g post pre.length).map (ts ++ ·)),bs):=by
 have hR:=VL hI
 have hlen:=hI.len
 intro post
 induction post with
 | nil=>
  intro pre ts o ρ hk htl h1 h4 h5 h7 h20 h21 h22
  simp only[List.append_nil]at hk
  rw[← hk]at h22
  have hg:=WI ts
  rw[Qc F.f413l0.eq_1]
  simp[h1,h4,h5,h7,h20,h21,h22,tsR,Uf,hg,F.f413r0,F.f413R,F.f413K]
 | cons x post IH=>
  intro pre ts o ρ hk htl h1 h4 h5 h7 h20 h21 h22
  have hgx:=Qp hk
  have hll:l.length=pre.length+ (post.length+1):=by rw[hk];simp
  have hw1:IntKind.i64.wrap ((pre.length:Int)+1)=(pre.length:Int)+1:=Ql (by omega) (by omega)
  have hlt: (pre.length:Int) < (l.length:Int):=by omega
  obtain⟨hv,hb⟩:=hI.ok x (by rw[hk];simp)
  have hc:=Qgx hR (by omega) (g:=g) hgx hv hb false (bs ++ [Qq f])
  have hmm:=JC hR hv hb
  have hml: (WY l x).length≤3:=by
   have n1: (WV l x).length≤1:=by unfold WV;split <;> simp
   have n2: (Xt l x).length≤2:=by unfold Xt;split <;> simp
   unfold WY;rw[List.length_append];omega
  have ha:=fun o=>Mw (WY l x) 431 [.gp bs.length 0] (YN f) o (bs ++ [Qq f]) (by omega) (by simp) (fun y hy=>Qgy f hf hM y (hmm y hy) bs.length (bs ++ [Qq f]) (by simp))
  have htl2:=OC l x pre.length (decide (g≤pre.length)) (by omega)
  have e:tsR f l g (x:: post) pre.length=if S7 f l x then none else(tsR f l g post (pre.length+1)).map (Yy l x pre.length (decide (g≤pre.length))++ ·):=rfl
  have hi:=fun o ρ=>IH (pre ++ [x]) (ts ++ Yy l x pre.length (decide (g≤pre.length))) o ρ (by rw[hk];simp) (by simp only[List.length_append,List.length_singleton];omega)
  rw[List.length_append,List.length_singleton]at hi
  have ec: ∀q:Option (List Tst),(q.map (Yy l x pre.length (decide (g≤pre.length))++ ·)).map (ts ++ ·)=q.map (ts ++ Yy l x pre.length (decide (g≤pre.length))++ ·):=fun q=>by cases q <;> simp
  rw[Qc F.f413l0.eq_1,e]
  cases c:S7 f l x
  ·unfold S7 at c
   rw[c]at ha
   have hb2: (ts.length+ (Yy l x pre.length (decide (g≤pre.length))).length)*120≤140737488355328:=DR (by omega)
   simp only[Bool.false_eq_true,if_false]
   rw[ec]
   generalize Yy l x pre.length (decide (g≤pre.length))=Q at *
   simp[h1,h4,h5,h7,h20,h21,h22,hlt,hw1,hc,ha,Y3,hb2,Mg,-List.append_assoc]
   apply hi <;> first | rfl | assumption | simp[h1,h4,h5,h20,h21]
  ·unfold S7 at c
   rw[c]at ha
   simp[h1,h4,h5,h7,h20,h21,h22,hlt,hw1,hc,ha,Uf,F.f413R,F.f413K]
theorem Qgp (f:Fr) (hf:FOk f) (hM:massL f.t < 1000000) (hv:Za f=0) (bs:List (List AV)):call F.tb 413 [.agg (Qq f)] bs=some (Uf (SA f),bs):=by
 have h:=Dj f hf hM hv (bs ++ [Qq f])
 have hte:Qq f=[.sl false 4 (encTs f.s),.sl false 4 (encTs f.t)]:=rfl
 unfold SA
 rw[Qb F.tb_413 _ _ rfl]
 cases c:Wt f with
 | none=>
  rw[c]at h
  rw[hte]at h ⊢
  simp only[Ue]at h
  simp[F.f413B,F.f413C,F.f413R,F.f413K,h,Uf]
 | some l=>
  obtain⟨os,n,hI⟩:=T5 hv c
  have hl:=fun o ρ=>QkJ f hf hM bs (ZN f).length hI l [] [] o ρ rfl (by simp)
  simp only[List.nil_append]at hl
  have em: ∀q:Option (List Tst),q.map (fun x=>x)=q:=fun q=>by cases q <;> rfl
  simp only[em]at hl
  rw[c]at h
  simp only[Ue]at h
  rw[hte]at h hl ⊢
  simp only[List.length_nil]at hl
  generalize (ZN f).length=g at *
  simp[F.f413B,F.f413C,h]
  apply hl <;> first | rfl | simp[QI,QK]
theorem QkK (f:Fr) (hf:FOk f) (hM:massL f.t < 1000000) (bs:List (List AV)) (g:Nat) {l:List Rp} {os:List Nat} {n:Nat} (hI:Ut l os n):
  ∀(post pre:List Rp) (ts:List Tst) (o:Bool) (ρ:Nat→AV),l=pre ++ post→ts.length≤pre.length*100004→ρ 1= .bx (Qq f)→ρ 4= .sl o 8 (Qr l)→ρ 5= .int .i64 g→ρ 7= .sl true 9 (QK ts)→ρ 8= .int .i64 pre.length→
  R F.tb (.loop F.f449l0) ρ bs (Qk 0 (Qv F.tb F.f449r0 (Qx F.f449 bs)))=some (Uf ((tsR f l g post pre.length).map (ts ++ ·)),bs):=by
 have hR:=VL hI
 have hlen:=hI.len
 have hte:Qq f=[.sl false 4 (encTs f.s),.sl false 4 (encTs f.t)]:=rfl
 intro post
 induction post with
 | nil=>
  intro pre ts o ρ hk htl h1 h4 h5 h7 h8
  simp only[List.append_nil]at hk
  rw[← hk]at h8
  have hg:=WI ts
  rw[Qc F.f449l0.eq_1]
  simp[h1,h4,h5,h7,h8,QI,tsR,Uf,hg,F.f449r0,F.f449R,F.f449K]
 | cons x post IH=>
  intro pre ts o ρ hk htl h1 h4 h5 h7 h8
  have hgx:=Qp hk
  have hll:l.length=pre.length+ (post.length+1):=by rw[hk];simp
  have hw1:IntKind.i64.wrap ((pre.length:Int)+1)=(pre.length:Int)+1:=Ql (by omega) (by omega)
  have hlt: (pre.length:Int) < (l.length:Int):=by omega
  obtain⟨hv,hb⟩:=hI.ok x (by rw[hk];simp)
  have hrd:=QgG f hf hM hR hgx hv hb false bs
  have hc:=QgH hR (by omega) (g:=decide (g≤pre.length)) hgx hv hb false bs
  have htl2:=OC l x pre.length (decide (g≤pre.length)) (by omega)
  have e:tsR f l g (x:: post) pre.length=if S7 f l x then none else(tsR f l g post (pre.length+1)).map (Yy l x pre.length (decide (g≤pre.length))++ ·):=rfl
  have hi:=fun o ρ=>IH (pre ++ [x]) (ts ++ Yy l x pre.length (decide (g≤pre.length))) o ρ (by rw[hk];simp) (by simp only[List.length_append,List.length_singleton];omega)
  rw[List.length_append,List.length_singleton]at hi
  have ec: ∀q:Option (List Tst),(q.map (Yy l x pre.length (decide (g≤pre.length))++ ·)).map (ts ++ ·)=q.map (ts ++ Yy l x pre.length (decide (g≤pre.length))++ ·):=fun q=>by cases q <;> simp
  have eg:decide ((g:Int)≤(pre.length:Int))=decide (g≤pre.length):=by simp
  rw[Qc F.f449l0.eq_1,e]
  cases c:S7 f l x
  ·rw[c]at hrd
   have hb2: (ts.length+ (Yy l x pre.length (decide (g≤pre.length))).length)*120≤140737488355328:=DR (by omega)
   simp only[Bool.false_eq_true,if_false]
   rw[ec]
   rw[hte]at hrd h1 hi
   generalize Yy l x pre.length (decide (g≤pre.length))=Q at *
   simp[h1,h4,h5,h7,h8,QI,hlt,hw1,hrd,hc,Y3,hb2,Mg,-List.append_assoc]
   apply hi <;> first | rfl | assumption | simp[h1,h4,h5]
  ·rw[c]at hrd
   rw[hte]at hrd h1
   simp[h1,h4,h5,h7,h8,QI,hlt,hw1,hrd,Uf,F.f449R,F.f449K]
theorem QgC (f:Fr) (hf:FOk f) (hM:massL f.t < 1000000) (hv:Za f=0) (bs:List (List AV)):call F.tb 449 [.agg (Qq f)] bs=some (Uf (SA f),bs):=by
 have h:=Dm f hf hM hv bs
 have hte:Qq f=[.sl false 4 (encTs f.s),.sl false 4 (encTs f.t)]:=rfl
 unfold SA
 rw[Qb F.tb_449 _ _ rfl]
 cases c:Wt f with
 | none=>
  rw[c]at h
  rw[hte]at h ⊢
  simp only[Ud]at h
  simp[F.f449B,F.f449C,F.f449R,F.f449K,h,Uf]
 | some l=>
  obtain⟨os,n,hI⟩:=T5 hv c
  have hl:=fun o ρ=>QkK f hf hM bs (ZN f).length hI l [] [] o ρ rfl (by simp)
  simp only[List.nil_append]at hl
  have em: ∀q:Option (List Tst),q.map (fun x=>x)=q:=fun q=>by cases q <;> rfl
  simp only[em]at hl
  rw[c]at h
  simp only[Ud]at h
  rw[hte]at h hl ⊢
  simp only[List.length_nil]at hl
  generalize (ZN f).length=g at *
  simp[F.f449B,F.f449C,h]
  apply hl <;> first | rfl | simp[QI,QK]
theorem Wg {f:Fr} (h:Vu f=0):Za f=0:=by
 unfold Vu at h
 split at h
 ·rename_i c;exact absurd h c
 ·rename_i c;simpa using c
def OB (f:Fr):List Tst×Int:=if Vu f≠0 then([],Vu f)else match SA f with
 | some ts=>(ts,0)
 | none=>([],3)
def Te (q:List Tst×Int):AV:= .tup [.sl false 9 (QK q.1),.int .i64 q.2]
theorem Qgo (f:Fr) (hf:FOk f) (hM:massL f.t < 1000000) (bs:List (List AV)):call F.tb 411 [.agg (Qq f)] bs=some (Te (OB f),bs):=by
 have h0:=Di f hf bs
 have hte:Qq f=[.sl false 4 (encTs f.s),.sl false 4 (encTs f.t)]:=rfl
 rw[Qb F.tb_411 _ _ rfl]
 unfold OB
 by_cases c:Vu f=0
 ·have h1:=Qgp f hf hM (Wg c) bs
  cases d:SA f with
  | none=>
   rw[d]at h1
   rw[hte]at h0 h1 ⊢
   simp only[Uf]at h1
   simp[F.f411B,F.f411C,F.f411R,F.f411K,h0,h1,c,Te,QK]
  | some ts=>
   have hg:=WI ts
   rw[d]at h1
   rw[hte]at h0 h1 ⊢
   simp only[Uf]at h1
   simp[F.f411B,F.f411C,F.f411R,F.f411K,h0,h1,c,Te,hg]
 ·rw[hte]at h0 ⊢
  simp[F.f411B,F.f411C,F.f411R,F.f411K,h0,c,Te,QK]
theorem QgB (f:Fr) (hf:FOk f) (hM:massL f.t < 1000000) (bs:List (List AV)):call F.tb 448 [.agg (Qq f)] bs=some (Te (OB f),bs):=by
 have h0:=Dl f hf bs
 have hte:Qq f=[.sl false 4 (encTs f.s),.sl false 4 (encTs f.t)]:=rfl
 rw[Qb F.tb_448 _ _ rfl]
 unfold OB
 by_cases c:Vu f=0
 ·have h1:=QgC f hf hM (Wg c) bs
  cases d:SA f with
  | none=>
   rw[d]at h1
   rw[hte]at h0 h1 ⊢
   simp only[Uf]at h1
   simp[F.f448B,F.f448C,F.f448R,F.f448K,h0,h1,c,Te,QK]
  | some ts=>
   have hg:=WI ts
   rw[d]at h1
   rw[hte]at h0 h1 ⊢
   simp only[Uf]at h1
   simp[F.f448B,F.f448C,F.f448R,F.f448K,h0,h1,c,Te,hg]
 ·rw[hte]at h0 ⊢
  simp[F.f448B,F.f448C,F.f448R,F.f448K,h0,c,Te,QK]
end Go.Am
namespace Go.Am
set_option maxRecDepth 8000
theorem QbI {f:Fr} {r:Tm} (h:YN f r=false):r.mass≤13200:=by
 unfold YN at h
 split at h
 ·cases h
 ·rename_i c;exact(Y6 (by simpa using c)).2.2
theorem BG {f:Fr} {l:List Rp} {os:List Nat} {n i:Nat} {g:Bool} (hI:Ut l os n) {x:Rp} (hx:x∈l) (hL:S7 f l x=false): ∀q∈Yy l x i g,q.l.mass < 1000000∧q.r.mass < 1000000:=by
 obtain⟨hv,hb⟩:=hI.ok x hx
 obtain⟨_,_,hg,hma,hno⟩:=ZY hv
 have hm: ∀y∈WY l x,y.mass≤13200:=fun y hy=>by
  have:=List.any_eq_false.1 hL y hy
  exact QbI (by simpa using this)
 intro q hq
 unfold Yy at hq
 simp only[List.mem_append]at hq
 rcases hq with(((hq | hq) | hq) | hq) | hq
 ·unfold tsA at hq
  obtain⟨y,hy,rfl⟩:=List.mem_map.1 hq
  have:=hI.ok y (List.mem_of_mem_take (List.mem_filter.1 hy).1)
  exact⟨hb,this.2⟩
 ·unfold tsB at hq
  split at hq
  ·rw[List.mem_singleton]at hq;subst hq;exact⟨hb,by simp only;omega⟩
  ·cases hq
 ·unfold tsC at hq
  cases c:XS l x.t with
  | none=>rw[c]at hq;cases hq
  | some u=>
   rw[c,List.mem_singleton]at hq;subst hq
   have:=hm u (by simp[WY,WV,c])
   exact⟨hb,by simp only;omega⟩
 ·unfold tsD at hq
  split at hq
  ·rw[List.mem_singleton]at hq;subst hq;exact⟨hb,hb⟩
  ·cases hq
 ·unfold tsE at hq
  cases c:Vv l x with
  | none=>rw[c]at hq;cases hq
  | some v=>
   rw[c,List.mem_singleton]at hq;subst hq
   have h1:=hm v (by simp[WY,Xt,c])
   have h2:=hm (.mk 3 READ 0 [x.b]) (by simp[WY,Xt,c])
   exact⟨by simp only;omega,by simp only;omega⟩
theorem Fu {f:Fr} {l:List Rp} {os:List Nat} {n g:Nat} (hI:Ut l os n): ∀{post:List Rp} {i:Nat} {ts:List Tst},(∀x∈post,x∈l)→tsR f l g post i=some ts→∀q∈ts,q.l.mass < 1000000∧q.r.mass < 1000000
 | [],i,ts,_,h=>by simp only[tsR,Option.some.injEq]at h;subst h;simp
 | x:: r,i,ts,hx,h=>by
  unfold tsR at h
  split at h
  ·cases h
  ·rename_i c
   cases hr:tsR f l g r (i+1)with
   | none=>rw[hr]at h;cases h
   | some us=>
    rw[hr]at h
    simp only[Option.map_some,Option.some.injEq]at h
    subst h
    intro q hq
    rcases List.mem_append.1 hq with hq | hq
    ·exact BG hI (hx x (by simp)) (by simpa using c) q hq
    ·exact Fu hI (fun y hy=>hx y (by simp[hy])) hr q hq
theorem Qcp {f:Fr} (hv:Za f=0) {ts:List Tst} (h:SA f=some ts): ∀q∈ts,q.l.mass < 1000000∧q.r.mass < 1000000:=by
 unfold SA at h
 cases c:Wt f with
 | none=>rw[c]at h;cases h
 | some l=>
  rw[c]at h
  obtain⟨os,n,hI⟩:=T5 hv c
  exact Fu hI (fun x hx=>hx) h
theorem LX (f:Fr) (l:List Rp) (g:Nat): ∀{post:List Rp} {i:Nat} {ts:List Tst},i+post.length≤100000→tsR f l g post i=some ts→ts.length≤post.length*100004
 | [],i,ts,_,h=>by simp only[tsR,Option.some.injEq]at h;subst h;simp
 | x:: r,i,ts,hi,h=>by
  unfold tsR at h
  split at h
  ·cases h
  ·cases hr:tsR f l g r (i+1)with
   | none=>rw[hr]at h;cases h
   | some us=>
    rw[hr]at h
    simp only[Option.map_some,Option.some.injEq]at h
    subst h
    simp only[List.length_cons]at hi
    have h1:=LX f l g (by omega) hr
    have h2:=OC l x i (decide (g≤i)) (by omega)
    simp only[List.length_append,List.length_cons]
    omega
theorem Qh2 (f:Fr): (∀q∈(OB f).1,q.l.mass < 1000000∧q.r.mass < 1000000)∧(OB f).1.length < 100000000000:=by
 unfold OB
 by_cases c:Vu f=0
 ·rw[if_neg (by simpa using c)]
  cases d:SA f with
  | none=>simp
  | some ts=>
   refine⟨Qcp (Wg c) d,?_⟩
   unfold SA at d
   cases c2:Wt f with
   | none=>rw[c2]at d;cases d
   | some l=>
    rw[c2]at d
    obtain⟨os,n,hI⟩:=T5 (Wg c) c2
    have:=hI.len
    have:=LX f l _ (by omega) d
    simp only
    omega
 ·rw[if_pos (by simpa using c)];simp
def ND (f:Fr):List Rp×Int:=if Vu f≠0 then([],Vu f)else match Wt f with
 | some l=>(l,0)
 | none=>([],3)
def UO (q:List Rp×Int):AV:= .tup [.sl false 8 (Qr q.1),.int .i64 q.2]
theorem QhP (f:Fr):ROk (ND f).1:=by
 unfold ND
 by_cases c:Vu f=0
 ·rw[if_neg (by simpa using c)]
  cases d:Wt f with
  | none=>exact⟨by simp,by simp⟩
  | some l=>
   obtain⟨os,n,hI⟩:=T5 (Wg c) d
   exact VL hI
 ·rw[if_pos (by simpa using c)];exact⟨by simp,by simp⟩
theorem QkC (l:List Rp) (hR:ROk l) (bs:List (List AV)):
  ∀(post pre:List Rp) (ρ:Nat→AV),l=pre ++ post→ρ 8= .sl true 8 (Qr pre)→ρ 25= .sl false 8 (Qr l)→ρ 26= .int .i64 l.length→ρ 27= .int .i64 pre.length→
  R F.tb (.loop F.f471l0) ρ bs (Qk 0 (Qv F.tb F.f471r0 (Qx F.f471 bs)))=some (UO (l,0),bs):=by
 have hlen:=hR.1
 intro post
 induction post with
 | nil=>
  intro pre ρ hk h8 h25 h26 h27
  simp only[List.append_nil]at hk
  rw[← hk]at h8 h27
  have hg:=U1 l
  rw[Qc F.f471l0.eq_1]
  simp[h8,h25,h26,h27,hg,UO,F.f471r0,F.f471R,F.f471K]
 | cons x post IH=>
  intro pre ρ hk h8 h25 h26 h27
  have hg:=Z9 (Qp hk)
  have hll:l.length=pre.length+ (post.length+1):=by rw[hk];simp
  have hw1:IntKind.i64.wrap ((pre.length:Int)+1)=(pre.length:Int)+1:=Ql (by omega) (by omega)
  have hlt: (pre.length:Int) < (l.length:Int):=by omega
  have hx:=hR.2 x (by rw[hk];simp)
  have c1:=V9 x.t bs (by unfold big;omega)
  have c2:=V9 x.b bs (by unfold big;omega)
  have e1:=Qj x.t
  have e2:=Qj x.b
  have er:QR x=[.int .i64 x.t.kind,.str x.t.name,.int .i64 x.t.sort,.sl false 4 (encTs x.t.kids),.int .i64 x.b.kind,.str x.b.name,.int .i64 x.b.sort,.sl false 4 (encTs x.b.kids)]:=rfl
  have ea:Qr (pre ++ [x])=Qr pre ++ [[.int .i64 x.t.kind,.str x.t.name,.int .i64 x.t.sort,.sl false 4 (encTs x.t.kids),.int .i64 x.b.kind,.str x.b.name,.int .i64 x.b.sort,.sl false 4 (encTs x.b.kids)]]:=by simp[Qr,er]
  have hb: (pre.length+1)*112≤140737488355328:=Sm (by omega)
  have hi:=fun ρ=>IH (pre ++ [x]) ρ (by rw[hk];simp)
  rw[ea]at hi
  rw[er]at hg
  rw[e1]at c1
  rw[e2]at c2
  rw[Qc F.f471l0.eq_1]
  simp[h8,h25,h26,h27,hg,hlt,hw1,c1,c2,QI,hb]
  apply hi <;> simp[h25,h26]
theorem QgI (f:Fr) (hf:FOk f) (hM:massL f.t < 1000000) (bs:List (List AV)):call F.tb 471 [.agg (Qq f)] bs=some (UO (ND f),bs):=by
 have h0:=Di f hf bs
 have hte:Qq f=[.sl false 4 (encTs f.s),.sl false 4 (encTs f.t)]:=rfl
 rw[Qb F.tb_471 _ _ rfl]
 unfold ND
 by_cases c:Vu f=0
 ·have h1:=Dj f hf hM (Wg c) bs
  cases d:Wt f with
  | none=>
   rw[d]at h1
   rw[hte]at h0 h1 ⊢
   simp only[Ue]at h1
   simp[F.f471B,F.f471C,F.f471R,F.f471K,h0,h1,c,UO,Qr]
  | some l=>
   obtain⟨os,n,hI⟩:=T5 (Wg c) d
   have hl:=fun ρ=>QkC l (VL hI) bs l [] ρ rfl
   rw[d]at h1
   rw[hte]at h0 h1 ⊢
   simp only[Ue]at h1
   generalize (ZN f).length=g at *
   simp[F.f471B,F.f471C,h0,h1,c]
   apply hl <;> first | rfl | simp[QI]
 ·rw[hte]at h0 ⊢
  simp[F.f471B,F.f471C,F.f471R,F.f471K,h0,c,UO,Qr]
theorem QgJ (f:Fr) (hf:FOk f) (hM:massL f.t < 1000000) (bs:List (List AV)):call F.tb 472 [.agg (Qq f)] bs=some (UO (ND f),bs):=by
 have h0:=Dl f hf bs
 have hte:Qq f=[.sl false 4 (encTs f.s),.sl false 4 (encTs f.t)]:=rfl
 rw[Qb F.tb_472 _ _ rfl]
 unfold ND
 by_cases c:Vu f=0
 ·have h1:=Dm f hf hM (Wg c) bs
  cases d:Wt f with
  | none=>
   rw[d]at h1
   rw[hte]at h0 h1 ⊢
   simp only[Ud]at h1
   simp[F.f472B,F.f472C,F.f472R,F.f472K,h0,h1,c,UO,Qr]
  | some l=>
   have hg:=U1 l
   rw[d]at h1
   rw[hte]at h0 h1 ⊢
   simp only[Ud]at h1
   simp[F.f472B,F.f472C,F.f472R,F.f472K,h0,h1,c,UO,hg]
 ·rw[hte]at h0 ⊢
  simp[F.f472B,F.f472C,F.f472R,F.f472K,h0,c,UO,Qr]
theorem QhO (l:List Rp) (hR:ROk l) (bs:List (List AV)):
  ∀(post pre:List Rp) (o o2:Bool) (ρ:Nat→AV),l=pre ++ post→ρ 0= .sl o 8 (Qr l)→ρ 1= .sl o2 8 (Qr l)→ρ 5= .int .i64 pre.length→
  R F.tb (.loop F.f473l0) ρ bs (Qk 0 (Qv F.tb F.f473r0 (Qx F.f473 bs)))=some (.bool true,bs):=by
 have hlen:=hR.1
 intro post
 induction post with
 | nil=>
  intro pre o o2 ρ hk h0 h1 h5
  simp only[List.append_nil]at hk
  rw[← hk]at h5
  rw[Qc F.f473l0.eq_1]
  simp[h0,h1,h5,QI,F.f473r0,F.f473R,F.f473K]
 | cons x post IH=>
  intro pre o o2 ρ hk h0 h1 h5
  have hg:=Z9 (Qp hk)
  have hll:l.length=pre.length+ (post.length+1):=by rw[hk];simp
  have hw1:IntKind.i64.wrap ((pre.length:Int)+1)=(pre.length:Int)+1:=Ql (by omega) (by omega)
  have hlt: (pre.length:Int) < (l.length:Int):=by omega
  have hx:=hR.2 x (by rw[hk];simp)
  have c1:=Z8 x.t x.t bs (by unfold big;omega) (by unfold big;omega)
  have c2:=Z8 x.b x.b bs (by unfold big;omega) (by unfold big;omega)
  rw[Y8]at c1 c2
  have e1:=Qj x.t
  have e2:=Qj x.b
  have er:QR x=[.int .i64 x.t.kind,.str x.t.name,.int .i64 x.t.sort,.sl false 4 (encTs x.t.kids),.int .i64 x.b.kind,.str x.b.name,.int .i64 x.b.sort,.sl false 4 (encTs x.b.kids)]:=rfl
  have hi:=fun ρ=>IH (pre ++ [x]) o o2 ρ (by rw[hk];simp)
  rw[er]at hg
  rw[e1]at c1
  rw[e2]at c2
  rw[Qc F.f473l0.eq_1]
  simp[-getElem?_pos,Yi,h0,h1,h5,hg,hlt,hw1,c1,c2,QI]
  apply hi <;> simp[h0,h1]
theorem QgK (l:List Rp) (hR:ROk l) (o o2:Bool) (bs:List (List AV)):call F.tb 473 [.sl o 8 (Qr l),.sl o2 8 (Qr l)] bs=some (.bool true,bs):=by
 have h:=fun ρ=>QhO l hR bs l [] false false ρ rfl
 rw[Qb F.tb_473 _ _ rfl]
 simp[F.f473B,F.f473C]
 apply h <;> simp
theorem Qd4 (l:List Tst) (hl:l.length < 100000000000) (hm: ∀q∈l,q.l.mass < 1000000∧q.r.mass < 1000000) (bs:List (List AV)):
  ∀(post pre:List Tst) (o o2:Bool) (ρ:Nat→AV),l=pre ++ post→ρ 0= .sl o 9 (QK l)→ρ 1= .sl o2 9 (QK l)→ρ 5= .int .i64 pre.length→
  R F.tb (.loop F.f474l0) ρ bs (Qk 0 (Qv F.tb F.f474r0 (Qx F.f474 bs)))=some (.bool true,bs):=by
 intro post
 induction post with
 | nil=>
  intro pre o o2 ρ hk h0 h1 h5
  simp only[List.append_nil]at hk
  rw[← hk]at h5
  rw[Qc F.f474l0.eq_1]
  simp[h0,h1,h5,Y3,F.f474r0,F.f474R,F.f474K]
 | cons x post IH=>
  intro pre o o2 ρ hk h0 h1 h5
  have hg:=FQ (Qp hk)
  have hll:l.length=pre.length+ (post.length+1):=by rw[hk];simp
  have hw1:IntKind.i64.wrap ((pre.length:Int)+1)=(pre.length:Int)+1:=Ql (by omega) (by omega)
  have hlt: (pre.length:Int) < (l.length:Int):=by omega
  have hx:=hm x (by rw[hk];simp)
  have c1:=Z8 x.l x.l bs (by unfold big;omega) (by unfold big;omega)
  have c2:=Z8 x.r x.r bs (by unfold big;omega) (by unfold big;omega)
  rw[Y8]at c1 c2
  have e1:=Qj x.l
  have e2:=Qj x.r
  have hi:=fun ρ=>IH (pre ++ [x]) o o2 ρ (by rw[hk];simp)
  rw[VU]at hg
  rw[e1]at c1
  rw[e2]at c2
  rw[Qc F.f474l0.eq_1]
  simp[-getElem?_pos,Yi,List.getElem?_cons_succ,h0,h1,h5,hg,hlt,hw1,c1,c2,Y3]
  apply hi <;> simp[h0,h1]
theorem QgL (l:List Tst) (hl:l.length < 100000000000) (hm: ∀q∈l,q.l.mass < 1000000∧q.r.mass < 1000000) (o o2:Bool) (bs:List (List AV)):call F.tb 474 [.sl o 9 (QK l),.sl o2 9 (QK l)] bs=some (.bool true,bs):=by
 have h:=fun ρ=>Qd4 l hl hm bs l [] false false ρ rfl
 rw[Qb F.tb_474 _ _ rfl]
 simp[F.f474B,F.f474C]
 apply h <;> simp
theorem Ns (f:Fr) (h0:call F.tb 398 [] []=some (.bool true,[])):call F.tb 470 [.agg (Qq f)] []=some (.bool true,[]):=by
 have h1:=QgA f []
 have hte:Qq f=[.sl false 4 (encTs f.s),.sl false 4 (encTs f.t)]:=rfl
 rw[Qb F.tb_470 _ _ rfl]
 cases hw:GB f
 ·rw[hw]at h1
  rw[hte]at h1 ⊢
  simp[F.f470B,F.f470C,F.f470R,F.f470K,h0,h1]
 ·rw[hw]at h1
  obtain⟨hf,hM⟩:=Qdm hw
  have c1:=QgI f hf hM []
  have c2:=QgJ f hf hM []
  have c3:=Qgo f hf hM []
  have c4:=QgB f hf hM []
  have hR:=QhP f
  obtain⟨t1,t2⟩:=Qh2 f
  have s1:=fun o o2=>QgK (ND f).1 hR o o2 []
  have s2:=fun o o2=>QgL (OB f).1 t2 t1 o o2 []
  simp only[UO,Te]at c1 c2 c3 c4
  generalize ND f=S at *
  generalize OB f=T at *
  rw[hte]at h1 c1 c2 c3 c4 ⊢
  simp[F.f470B,F.f470C,F.f470R,F.f470K,h0,h1,c1,c2,c3,c4,s1,s2]
end Go.Am
namespace Go.Am
theorem Fg {T:Nat→Option AFn} {K:ZJ} (h:KLe K (call T)) {n:Nat}: ∀{c:AC} {σ:St} {x:Ex×St},Q9 K n c σ=some x→run T c σ=some x:=by
 intro c
 induction c with
 | bad=>intro σ x he;simp[Q9]at he
 | skip=>intro σ x he;rw[Fk];exact he
 | ret=>intro σ x he;rw[D0];exact he
 | exit id=>intro σ x he;rw[Fi];exact he
 | reg d ops=>
  intro σ x he
  rw[DZ]
  simp only[Q9]at he
  cases hr:Zv K ops σ with
  | none=>rw[hr]at he;cases he
  | some s=>rw[VC h hr];rw[hr]at he;exact he
 | seq a b iha ihb=>
  intro σ x he
  rw[D1]
  simp only[Q9]at he
  cases ha:Q9 K n a σ with
  | none=>rw[ha]at he;cases he
  | some p=>
   obtain⟨e,s⟩:=p
   rw[ha]at he
   rw[iha ha]
   cases e
   ·exact ihb he
   ·exact he
   ·exact he
 | cond c a b iha ihb=>
  intro σ x he
  rw[Fh]
  simp only[Q9]at he
  split at he
  ·rename_i hv;rw[hv];exact iha he
  ·rename_i hv;rw[hv];exact ihb he
  ·cases he
 | block id c ih=>
  intro σ x he
  rw[JK]
  simp only[Q9]at he
  cases ha:Q9 K n c σ with
  | none=>rw[ha]at he;cases he
  | some p=>rw[ha]at he;rw[ih ha];exact he
 | loop c ih=>
  intro σ x he
  simp only[Q9]at he
  have key: ∀(m:Nat) (σ:St) (x:Ex×St),Vt (Q9 K n c) m σ=some x→run T (.loop c) σ=some x:=by
   intro m
   induction m with
   | zero=>intro σ x he;simp[Vt]at he
   | succ m IH=>
    intro σ x he
    rw[Fj]
    simp only[Vt]at he
    cases ha:Q9 K n c σ with
    | none=>rw[ha]at he;cases he
    | some p=>
     obtain⟨e,s⟩:=p
     rw[ha]at he
     rw[ih ha]
     cases e
     ·exact IH _ _ he
     ·exact he
     ·exact he
  exact key n σ x he
abbrev Qe:=Nat×List AV×List (List AV)×AV×List (List AV)
def LI:List Qe→Nat→List AV→List (List AV)→Option (AV×List (List AV))
 | [],_,_,_=>none
 | (g,ar,b,v,b2):: fs,f,args,bs=>if(g == f && eqVE b bs && eqVL ar args)=true then some (v,b2)else LI fs f args bs
def Qn (T:Nat→Option AFn) (fs:List Qe):Nat→ZJ
 | 0,_,_,_=>none
 | n+1,f,args,bs=>match LI fs f args bs with
  | some r=>some r
  | none=>match T f with
   | none=>none
   | some (.orc g)=>g args bs
   | some (.code fn)=>
    if args.length=fn.nparams then
     match Q9 (Qn T fs n) n fn.body {env:=YC args,bs}with
     | some (.normal,σ)=>Ym fn bs σ
     | some (.ret,σ)=>Ym fn bs σ
     | _=>none
    else none
def Qh (T:Nat→Option AFn):List Qe→Prop
 | []=>True
 | (g,ar,b,v,b2):: fs=>call T g ar b=some (v,b2)∧Qh T fs
theorem GW {T:Nat→Option AFn}: ∀{fs:List Qe},Qh T fs→∀{f args bs r},LI fs f args bs=some r→call T f args bs=some r
 | [],_,_,_,_,_,h=>by simp[LI]at h
 | (g,ar,b,v,b2):: fs,hf,f,args,bs,r,h=>by
  simp only[LI]at h
  split at h
  ·rename_i c
   simp only[Bool.and_eq_true,beq_iff_eq]at c
   obtain⟨⟨rfl,e2⟩,e⟩:=c
   have e:=eqVL_eq _ _ e
   have e2:=eqVE_eq _ _ e2
   subst e
   subst e2
   cases h
   exact hf.1
  ·exact GW hf.2 h
theorem Qf {T:Nat→Option AFn} {fs:List Qe} (hf:Qh T fs): ∀n,KLe (Qn T fs n) (call T)
 | 0,_,_,_,_,h=>by simp[Qn]at h
 | n+1,f,args,bs,r,h=>by
  simp only[Qn]at h
  split at h
  ·rename_i r' hl
   cases h
   exact GW hf hl
  ·rw[KQ]
   have ih:=Qf hf n
   split at h
   ·cases h
   ·rename_i g hg;rw[hg];exact h
   ·rename_i fn hg
    rw[hg]
    simp only
    split at h
    ·rename_i hl
     rw[if_pos hl]
     split at h
     ·rename_i σ hr;rw[Fg ih hr];exact h
     ·rename_i σ hr;rw[Fg ih hr];exact h
     ·cases h
    ·cases h
end Go.Am
namespace Go.Am
def Qes:List AV:=[.str [101,110,99,40,110,58,110,111,110,99,101,44,32,107,58,107,101,121,41]]
def WD:List AV:=[.int .i64 2,.str [107],.int .i64 3,.sl false 4 []]
def UJ:List AV:=[.int .i64 2,.str [109],.int .i64 2,.sl false 4 []]
def Yz:List AV:=[.int .i64 2,.str [110],.int .i64 2,.sl false 4 []]
def UK:List (List AV):=[WD,UJ,Yz]
def SD:List UInt8:=[101,110,99]
def P4:List AV:=[.int .i64 3,.str SD,.int .i64 0,.sl false 4 [Yz,WD]]
def UL:List AV:=[.sl false 4 UK,.sl false 4 [P4]]
def Qet:List AV:=[.str [101,110,99,40,109,58,110,111,110,99,101,44,32,107,58,107,101,121,41]]
def NH:List AV:=[.int .i64 3,.str SD,.int .i64 0,.sl false 4 [UJ,WD]]
def Vw:List AV:=[.sl false 4 UK,.sl false 4 [NH]]
def OS:List AV:=[.agg Yz,.int .i64 0]
def V4:List AV:=[.agg P4,.int .i64 0]
def OT:List AV:=[.agg UJ,.int .i64 0]
def M4:List AV:=[.agg NH,.int .i64 0]
def WL:List AV:=[.sl false 9 [],.int .i64 0]
def HQ:List AV:=[.agg [.int .i64 0,.str [],.int .i64 0,.sl false 4 [],.int .i64 0,.str [],.int .i64 0,.sl false 4 [],.bool false],.int .i64 15]
def OU:List AV:=[.bool true,.int .i64 0]
def B3:List AV:=[.str [107,58,107,101,121]]
def B4:List AV:=[.str [110,58,110,111,110,99,101]]
def ZD:List AV:=[.sl false 4 UK,.sl false 4 [P4,WD,Yz]]
def Zp:List AV:=[.sl false 4 UK,.sl false 4 [NH,WD,Yz]]
def Rc:List UInt8:=[100,101,99]
def M5:List UInt8:=[119,48]
def W2:List AV:=[.int .i64 1,.str M5,.int .i64 0,.sl false 4 []]
def V5:List AV:=[.int .i64 1,.str [119,49],.int .i64 0,.sl false 4 []]
def M6:List (List AV):=[W2,V5]
def WM:List AV:=[.int .i64 3,.str Rc,.int .i64 0,.sl false 4 M6]
def B5:List (List AV):=[ZD,ZD,[.undef]]
def OV:List AV:=[.int .i64 1,.str [119,50],.int .i64 0,.sl false 4 []]
def Rd:List AV:=[.int .i64 3,.str SD,.int .i64 0,.sl false 4 [OV,V5]]
def Re:List AV:=[.int .i64 1,.str M5,.int .i64 0,.sl false 4 [],.int .i64 3,.str SD,.int .i64 0,.sl false 4 [OV,V5],.bool false]
def B6:List AV:=[.int .i64 3,.str Rc,.int .i64 0,.sl false 4 M6,.int .i64 1,.str [119,50],.int .i64 0,.sl false 4 [],.bool false]
def OW:List AV:=[.int .i64 3,.str Rc,.int .i64 0,.sl false 4 M6,.int .i64 3,.str Rc,.int .i64 0,.sl false 4 M6,.bool false]
def B7:List AV:=[.sl false 9 [Re,B6,OW],.int .i64 0]
def B8:List (List AV):=[Zp,Zp,[.undef]]
def Rf:List AV:=[.int .i64 3,.str SD,.int .i64 0,.sl false 4 [WM,V5]]
def M7:List AV:=[.int .i64 1,.str M5,.int .i64 0,.sl false 4 [],.int .i64 3,.str SD,.int .i64 0,.sl false 4 [WM,V5],.bool false]
def M8:List AV:=[.sl false 9 [M7,OW],.int .i64 0]
def Rg:List AV:=[.bool false,.int .i64 0]
def HR:List AV:=[.int .i64 3,.str Rc,.int .i64 0,.sl false 4 [NH,WD]]
def M9:List AV:=[.int .i64 3,.str Rc,.int .i64 0,.sl false 4 [P4,WD]]
def B9:List AV:=[.int .i64 3,.str SD,.int .i64 0,.sl false 4 [M9,WD]]
def OX:List UInt8:=[104,97,115,104]
def YH:List (List AV):=[Yz]
def OY:List AV:=[.int .i64 3,.str OX,.int .i64 0,.sl false 4 YH]
def La:List AV:=[.sl false 4 UK,.sl false 4 [OY]]
def WN:List (List AV):=[Yz,[.str [122]]]
def UV:List AV:=[.int .i64 2,.str [122],.int .i64 2,.sl false 4 []]
def Vx:List AV:=[.sl false 4 UK,.sl false 4 [OY,Yz]]
def HS:List (List AV):=[WD,UJ,Yz,UV]
def W3:List AV:=[.sl false 4 HS,.sl false 4 [OY,UV]]
def QB:List (List AV):=[Yz,[],[]]
def Aa:List AV:=[.int .i64 3,.str OX,.int .i64 0,.sl false 4 [V5]]
def Ab:List (List AV):=[Yz,[],[],Vx]
def Ac:List AV:=[.agg OY,.int .i64 0]
def HT:List AV:=[.int .i64 1,.str M5,.int .i64 0,.sl false 4 [],.int .i64 3,.str OX,.int .i64 0,.sl false 4 [V5],.bool false]
def Ad:List AV:=[.sl false 9 [HT],.int .i64 0]
def Ae:List AV:=[.agg HT,.int .i64 0]
def Lb:List AV:=[.int .i64 3,.str OX,.int .i64 0,.sl false 4 [[.int .i64 3,.str [112,97,105,114],.int .i64 0,.sl false 4 [Yz,UJ]]]]
def Lc:List AV:=[.sl false 4 UK,.sl false 4 [Lb]]
def UW:List AV:=[.sl false 4 UK,.sl false 4 [Lb,Yz]]
def UX:List AV:=[.sl false 4 HS,.sl false 4 [Lb,UV]]
def OZ:List AV:=[.int .i64 3,.str SD,.int .i64 0,.sl false 4 [UJ,Yz]]
def Ld:List AV:=[.sl false 4 UK,.sl false 4 [OZ]]
def Wr:List AV:=[.sl false 4 UK,.sl false 4 [OZ,Yz]]
def Ws:List AV:=[.sl false 4 HS,.sl false 4 [OZ,UV]]
def Af:List (List AV):=[Yz,[],[],Wr,Wr,[.undef]]
def Ag:List (List AV):=[Yz,[],[],Wr]
def Ah:List AV:=[.agg OZ,.int .i64 0]
def Ai:List AV:=[.agg [.int .i64 0,.str [],.int .i64 0,.sl false 4 []],.int .i64 11]
def Aj:List AV:=[.agg M7,.int .i64 0]
def Ck:List Qe:=[]
def NI:Qe:=(399,[.sl false 1 [Qes]],[],.agg UL,[])
def Cl:List Qe:=NI:: Ck
def NJ:Qe:=(399,[.sl false 1 [Qet]],[],.agg Vw,[])
def Cm:List Qe:=NJ:: Cl
def NK:Qe:=(175,[.agg Yz],[],.tup OS,[])
def Cn:List Qe:=NK:: Cm
def NL:Qe:=(175,[.agg WD],[],.tup [.agg WD,.int .i64 0],[])
def Co:List Qe:=NL:: Cn
def NM:Qe:=(175,[.agg P4],[],.tup V4,[])
def Cp:List Qe:=NM:: Co
def NN:Qe:=(175,[.agg UJ],[],.tup OT,[])
def Cq:List Qe:=NN:: Cp
def NO:Qe:=(175,[.agg NH],[],.tup M4,[])
def Cr:List Qe:=NO:: Cq
def NP:Qe:=(402,[.agg UL,.agg Vw],[],.int .i64 0,[])
def Cs:List Qe:=NP:: Cr
def NQ:Qe:=(406,[.agg UL,.agg Vw],[],.agg UL,[])
def Ct:List Qe:=NQ:: Cs
def NR:Qe:=(412,[.agg UL],[],.int .i64 0,[])
def Ij:List Qe:=NR:: Ct
def Rh:Qe:=(413,[.agg UL],[],.tup WL,[])
def Ik:List Qe:=Rh:: Ij
def Ri:Qe:=(411,[.agg UL],[],.tup WL,[])
def Il:List Qe:=Ri:: Ik
def Rj:Qe:=(406,[.agg Vw,.agg UL],[],.agg Vw,[])
def Im:List Qe:=Rj:: Il
def Rk:Qe:=(412,[.agg Vw],[],.int .i64 0,[])
def Io:List Qe:=Rk:: Im
def Rl:Qe:=(413,[.agg Vw],[],.tup WL,[])
def Ip:List Qe:=Rl:: Io
def Rm:Qe:=(411,[.agg Vw],[],.tup WL,[])
def Iq:List Qe:=Rm:: Ip
def Rn:Qe:=(401,[.agg UL,.agg Vw],[],.tup HQ,[])
def Ir:List Qe:=Rn:: Iq
def Ro:Qe:=(400,[.agg UL,.agg Vw],[],.tup OU,[])
def Is:List Qe:=Ro:: Ir
def Rq:Qe:=(399,[.sl false 1 [Qes,B3,B4]],[],.agg ZD,[])
def It:List Qe:=Rq:: Is
def Rr:Qe:=(399,[.sl false 1 [Qet,B3,B4]],[],.agg Zp,[])
def Iu:List Qe:=Rr:: It
def Rs:Qe:=(402,[.agg ZD,.agg Zp],[],.int .i64 0,[])
def Iv:List Qe:=Rs:: Iu
def Rt:Qe:=(406,[.agg ZD,.agg Zp],[],.agg ZD,[])
def Iw:List Qe:=Rt:: Iv
def Ru:Qe:=(412,[.agg ZD],[],.int .i64 0,[])
def Ix:List Qe:=Ru:: Iw
def Rv:Qe:=(219,[.agg ZD,.agg WM],B5,.tup OS,B5)
def Iy:List Qe:=Rv:: Ix
def Rw:Qe:=(219,[.agg ZD,.agg Rd],[ZD],.tup V4,[ZD])
def Iz:List Qe:=Rw:: Iy
def Rx:Qe:=(413,[.agg ZD],[],.tup B7,[])
def IA:List Qe:=Rx:: Iz
def Ry:Qe:=(411,[.agg ZD],[],.tup B7,[])
def IB:List Qe:=Ry:: IA
def Rz:Qe:=(406,[.agg Zp,.agg ZD],[],.agg Zp,[])
def IC:List Qe:=Rz:: IB
def RA:Qe:=(412,[.agg Zp],[],.int .i64 0,[])
def ID:List Qe:=RA:: IC
def RB:Qe:=(219,[.agg Zp,.agg WM],B8,.tup OT,B8)
def IE:List Qe:=RB:: ID
def RC:Qe:=(219,[.agg Zp,.agg Rf],[Zp],.tup M4,[Zp])
def IF:List Qe:=RC:: IE
def RD:Qe:=(413,[.agg Zp],[],.tup M8,[])
def IG:List Qe:=RD:: IF
def RE:Qe:=(411,[.agg Zp],[],.tup M8,[])
def II:List Qe:=RE:: IG
def RF:Qe:=(220,[.agg Zp,.agg W2],[],.int .i64 0,[])
def IJ:List Qe:=RF:: II
def RG:Qe:=(225,[.agg Zp,.agg W2],[],.agg NH,[])
def IK:List Qe:=RG:: IJ
def RH:Qe:=(219,[.agg Zp,.agg W2],[],.tup M4,[])
def IL:List Qe:=RH:: IK
def RI:Qe:=(220,[.agg Zp,.agg Rd],[],.int .i64 0,[])
def IM:List Qe:=RI:: IL
def RJ:Qe:=(225,[.agg Zp,.agg OV],[],.agg Yz,[])
def IO:List Qe:=RJ:: IM
def RK:Qe:=(225,[.agg Zp,.agg V5],[],.agg WD,[])
def IP:List Qe:=RK:: IO
def RL:Qe:=(225,[.agg Zp,.agg Rd],[],.agg P4,[])
def IQ:List Qe:=RL:: IP
def RM:Qe:=(219,[.agg Zp,.agg Rd],[],.tup V4,[])
def IR:List Qe:=RM:: IQ
def RN:Qe:=(432,[.agg Zp,.agg Re],[],.tup Rg,[])
def IU:List Qe:=RN:: IR
def RO:Qe:=(220,[.agg Zp,.agg WM],[],.int .i64 0,[])
def IV:List Qe:=RO:: IU
def RP:Qe:=(225,[.agg Zp,.agg WM],[],.agg HR,[])
def IW:List Qe:=RP:: IV
def RQ:Qe:=(176,[.agg HR],[],.agg UJ,[])
def IX:List Qe:=RQ:: IW
def RR:Qe:=(175,[.agg HR],[],.tup OT,[])
def IY:List Qe:=RR:: IX
def RT:Qe:=(219,[.agg Zp,.agg WM],[],.tup OT,[])
def IZ:List Qe:=RT:: IY
def RU:Qe:=(220,[.agg Zp,.agg OV],[],.int .i64 0,[])
def I0:List Qe:=RU:: IZ
def RV:Qe:=(219,[.agg Zp,.agg OV],[],.tup OS,[])
def I1:List Qe:=RV:: I0
def RW:Qe:=(432,[.agg Zp,.agg B6],[],.tup Rg,[])
def I2:List Qe:=RW:: I1
def RX:Qe:=(432,[.agg Zp,.agg OW],[],.tup OU,[])
def I3:List Qe:=RX:: I2
def RY:Qe:=(220,[.agg ZD,.agg W2],[],.int .i64 0,[])
def I4:List Qe:=RY:: I3
def RZ:Qe:=(225,[.agg ZD,.agg W2],[],.agg P4,[])
def I5:List Qe:=RZ:: I4
def R0:Qe:=(219,[.agg ZD,.agg W2],[],.tup V4,[])
def I6:List Qe:=R0:: I5
def R1:Qe:=(220,[.agg ZD,.agg Rf],[],.int .i64 0,[])
def I7:List Qe:=R1:: I6
def R2:Qe:=(225,[.agg ZD,.agg V5],[],.agg WD,[])
def I8:List Qe:=R2:: I7
def R3:Qe:=(225,[.agg ZD,.agg WM],[],.agg M9,[])
def I9:List Qe:=R3:: I8
def R4:Qe:=(225,[.agg ZD,.agg Rf],[],.agg B9,[])
def Ha:List Qe:=R4:: I9
def R5:Qe:=(176,[.agg M9],[],.agg Yz,[])
def Hb:List Qe:=R5:: Ha
def R6:Qe:=(175,[.agg M9],[],.tup OS,[])
def Hc:List Qe:=R6:: Hb
def R7:Qe:=(175,[.agg B9],[],.tup V4,[])
def Hd:List Qe:=R7:: Hc
def R8:Qe:=(219,[.agg ZD,.agg Rf],[],.tup V4,[])
def He:List Qe:=R8:: Hd
def R9:Qe:=(432,[.agg ZD,.agg M7],[],.tup OU,[])
def Hf:List Qe:=R9:: He
def Pa:Qe:=(220,[.agg ZD,.agg WM],[],.int .i64 0,[])
def Hg:List Qe:=Pa:: Hf
def Pb:Qe:=(219,[.agg ZD,.agg WM],[],.tup OS,[])
def Hh:List Qe:=Pb:: Hg
def Pc:Qe:=(432,[.agg ZD,.agg OW],[],.tup OU,[])
def Hi:List Qe:=Pc:: Hh
def Pd:Qe:=(401,[.agg ZD,.agg Zp],[],.tup [.agg Re,.int .i64 0],[])
def Hj:List Qe:=Pd:: Hi
def Pe:Qe:=(399,[.sl false 1 [[.str [104,97,115,104,40,110,58,110,111,110,99,101,41]]]],[],.agg La,[])
def Hk:List Qe:=Pe:: Hj
def Pf:Qe:=(412,[.agg La],YH,.int .i64 0,YH)
def Hl:List Qe:=Pf:: Hk
def Pg:Qe:=(434,[.agg WD,.gp 0 0],YH,.bool false,YH)
def Hm:List Qe:=Pg:: Hl
def Ph:Qe:=(434,[.agg UJ,.gp 0 0],YH,.bool false,YH)
def Hn:List Qe:=Ph:: Hm
def Pi:Qe:=(434,[.agg Yz,.gp 0 0],YH,.bool true,YH)
def Ho:List Qe:=Pi:: Hn
def Pj:Qe:=(436,[.agg WD,.gp 1 0],WN,.bool false,WN)
def Hp:List Qe:=Pj:: Ho
def Pk:Qe:=(436,[.agg UJ,.gp 1 0],WN,.bool false,WN)
def Hq:List Qe:=Pk:: Hp
def Pm:Qe:=(436,[.agg Yz,.gp 1 0],WN,.bool false,WN)
def Hr:List Qe:=Pm:: Hq
def Pn:Qe:=(436,[.agg OY,.gp 1 0],WN,.bool false,WN)
def Hs:List Qe:=Pn:: Hr
def Po:Qe:=(435,[.agg La,.int .i64 2],YH,.agg UV,YH)
def Ht:List Qe:=Po:: Hs
def Pp:Qe:=(402,[.agg Vx,.agg W3],QB,.int .i64 0,QB)
def Hu:List Qe:=Pp:: Ht
def Pq:Qe:=(406,[.agg Vx,.agg W3],QB,.agg Vx,QB)
def Hv:List Qe:=Pq:: Hu
def Pr:Qe:=(412,[.agg Vx],QB,.int .i64 0,QB)
def Hw:List Qe:=Pr:: Hv
def Ps:Qe:=(219,[.agg Vx,.agg Aa],Ab,.tup Ac,Ab)
def Hx:List Qe:=Ps:: Hw
def Pt:Qe:=(413,[.agg Vx],QB,.tup Ad,QB)
def Hy:List Qe:=Pt:: Hx
def Pu:Qe:=(411,[.agg Vx],QB,.tup Ad,QB)
def Hz:List Qe:=Pu:: Hy
def Pv:Qe:=(406,[.agg W3,.agg Vx],QB,.agg W3,QB)
def HA:List Qe:=Pv:: Hz
def Px:Qe:=(412,[.agg W3],QB,.int .i64 0,QB)
def HB:List Qe:=Px:: HA
def Py:Qe:=(413,[.agg W3],QB,.tup WL,QB)
def HC:List Qe:=Py:: HB
def Pz:Qe:=(411,[.agg W3],QB,.tup WL,QB)
def HD:List Qe:=Pz:: HC
def PA:Qe:=(219,[.agg W3,.agg W2],QB,.tup Ac,QB)
def HE:List Qe:=PA:: HD
def PB:Qe:=(219,[.agg W3,.agg Aa],QB,.tup [.agg [.int .i64 3,.str OX,.int .i64 0,.sl false 4 [UV]],.int .i64 0],QB)
def HF:List Qe:=PB:: HE
def PC:Qe:=(432,[.agg W3,.agg HT],QB,.tup Rg,QB)
def HG:List Qe:=PC:: HF
def PD:Qe:=(401,[.agg Vx,.agg W3],QB,.tup Ae,QB)
def HH:List Qe:=PD:: HG
def PE:Qe:=(433,[.agg La,.agg Yz],[],.tup Ae,[])
def HI:List Qe:=PE:: HH
def PF:Qe:=(399,[.sl false 1 [[.str [104,97,115,104,40,112,97,105,114,40,110,58,110,111,110,99,101,44,32,109,58,110,111,110,99,101,41,41]]]],[],.agg Lc,[])
def HJ:List Qe:=PF:: HI
def PG:Qe:=(412,[.agg Lc],YH,.int .i64 0,YH)
def HK:List Qe:=PG:: HJ
def PH:Qe:=(436,[.agg Lb,.gp 1 0],WN,.bool false,WN)
def HL:List Qe:=PH:: HK
def PI:Qe:=(435,[.agg Lc,.int .i64 2],YH,.agg UV,YH)
def HM:List Qe:=PI:: HL
def PJ:Qe:=(402,[.agg UW,.agg UX],QB,.int .i64 0,QB)
def HN:List Qe:=PJ:: HM
def PL:Qe:=(406,[.agg UW,.agg UX],QB,.agg UW,QB)
def HO:List Qe:=PL:: HN
def PM:Qe:=(412,[.agg UW],QB,.int .i64 0,QB)
def HP:List Qe:=PM:: HO
def PN:Qe:=(413,[.agg UW],QB,.tup WL,QB)
def L1:List Qe:=PN:: HP
def Tp:Qe:=(411,[.agg UW],QB,.tup WL,QB)
def L2:List Qe:=Tp:: L1
def Tq:Qe:=(406,[.agg UX,.agg UW],QB,.agg UX,QB)
def L3:List Qe:=Tq:: L2
def Tr:Qe:=(412,[.agg UX],QB,.int .i64 0,QB)
def L4:List Qe:=Tr:: L3
def Ts:Qe:=(413,[.agg UX],QB,.tup WL,QB)
def L5:List Qe:=Ts:: L4
def Tt:Qe:=(411,[.agg UX],QB,.tup WL,QB)
def L6:List Qe:=Tt:: L5
def Tu:Qe:=(401,[.agg UW,.agg UX],QB,.tup HQ,QB)
def L7:List Qe:=Tu:: L6
def Tv:Qe:=(433,[.agg Lc,.agg Yz],[],.tup HQ,[])
def L8:List Qe:=Tv:: L7
def Tw:Qe:=(399,[.sl false 1 [[.str [101,110,99,40,109,58,110,111,110,99,101,44,32,110,58,110,111,110,99,101,41]]]],[],.agg Ld,[])
def L9:List Qe:=Tw:: L8
def Tx:Qe:=(412,[.agg Ld],YH,.int .i64 0,YH)
def Ka:List Qe:=Tx:: L9
def Ty:Qe:=(436,[.agg OZ,.gp 1 0],WN,.bool false,WN)
def Kb:List Qe:=Ty:: Ka
def Tz:Qe:=(435,[.agg Ld,.int .i64 2],YH,.agg UV,YH)
def Kc:List Qe:=Tz:: Kb
def TA:Qe:=(402,[.agg Wr,.agg Ws],QB,.int .i64 0,QB)
def Kd:List Qe:=TA:: Kc
def TC:Qe:=(406,[.agg Wr,.agg Ws],QB,.agg Wr,QB)
def Ke:List Qe:=TC:: Kd
def TD:Qe:=(412,[.agg Wr],QB,.int .i64 0,QB)
def Kf:List Qe:=TD:: Ke
def TE:Qe:=(219,[.agg Wr,.agg WM],Af,.tup OT,Af)
def Kg:List Qe:=TE:: Kf
def TH:Qe:=(219,[.agg Wr,.agg Rf],Ag,.tup Ah,Ag)
def Kh:List Qe:=TH:: Kg
def TI:Qe:=(413,[.agg Wr],QB,.tup M8,QB)
def Ki:List Qe:=TI:: Kh
def TJ:Qe:=(411,[.agg Wr],QB,.tup M8,QB)
def Kj:List Qe:=TJ:: Ki
def TK:Qe:=(406,[.agg Ws,.agg Wr],QB,.agg Ws,QB)
def Kk:List Qe:=TK:: Kj
def TL:Qe:=(412,[.agg Ws],QB,.int .i64 0,QB)
def Kl:List Qe:=TL:: Kk
def TM:Qe:=(413,[.agg Ws],QB,.tup WL,QB)
def Km:List Qe:=TM:: Kl
def TN:Qe:=(411,[.agg Ws],QB,.tup WL,QB)
def Ko:List Qe:=TN:: Km
def TO:Qe:=(219,[.agg Ws,.agg W2],QB,.tup Ah,QB)
def Kp:List Qe:=TO:: Ko
def TP:Qe:=(219,[.agg Ws,.agg Rf],QB,.tup Ai,QB)
def Kq:List Qe:=TP:: Kp
def TQ:Qe:=(432,[.agg Ws,.agg M7],QB,.tup Rg,QB)
def Kr:List Qe:=TQ:: Kq
def TR:Qe:=(219,[.agg Ws,.agg WM],QB,.tup Ai,QB)
def Ks:List Qe:=TR:: Kr
def TT:Qe:=(432,[.agg Ws,.agg OW],QB,.tup Rg,QB)
def Kt:List Qe:=TT:: Ks
def TU:Qe:=(401,[.agg Wr,.agg Ws],QB,.tup Aj,QB)
def Ku:List Qe:=TU:: Kt
def TV:Qe:=(433,[.agg Ld,.agg Yz],[],.tup Aj,[])
def Kv:List Qe:=TV:: Ku
def TW:Qe:=(267,[.agg ZD,.agg W2],[],.tup V4,[])
def Kw:List Qe:=TW:: Kv
def TX:Qe:=(267,[.agg ZD,.agg Rd],[],.tup V4,[])
def Kx:List Qe:=TX:: Kw
def TY:Qe:=(443,[.agg ZD,.agg Re],[],.tup OU,[])
def Ky:List Qe:=TY:: Kx
def TZ:Qe:=(267,[.agg Zp,.agg W2],[],.tup M4,[])
def Kz:List Qe:=TZ:: Ky
def T0:Qe:=(267,[.agg Zp,.agg Rd],[],.tup V4,[])
def KA:List Qe:=T0:: Kz
def T1:Qe:=(443,[.agg Zp,.agg Re],[],.tup Rg,[])
def KB:List Qe:=T1:: KA
def T2:Qe:=(438,[.agg ZD,.agg Zp,.agg Re],[],.bool true,[])
def Ek:List Qe:=T2:: KB
end Go.Am
