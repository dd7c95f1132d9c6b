/-
  En36, En37, En38, En39, En40, En41, En42.
-/
import Derived.Test.YtpdmcibimbjknaaGreatDoorG21
set_option linter.unusedVariables false
set_option linter.unusedSimpArgs false
namespace Go.Am
set_option maxRecDepth 8000
def pwT:List Pw→Tm→Int
 | [],_=>0
 | q:: g,t=>if Qm q.1 t=0 then q.2 else pwT g t
theorem B7: ∀{g:List Pw} {q:Pw} {t:Tm},Qm q.1 t≠0→pwT (g ++ [q]) t=pwT g t
 | [],q,t,h=>by simp[pwT,h]
 | p:: g,q,t,h=>by simp only[List.cons_append,pwT,B7 h]
theorem B6: ∀{g:List Pw} {q:Pw},(∀p∈g,Qm p.1 q.1≠0)→pwT (g ++ [q]) q.1=q.2
 | [],q,_=>by simp[pwT,YU.2 rfl]
 | p:: g,q,h=>by
  have h1:=h p (by simp);have h2:=B6 (g:=g) (q:=q) fun x hx=>h x (by simp[hx]);simp only[List.cons_append,pwT,if_neg h1,h2]
def Q3 (l:List Int):List AV:=l.map fun i=>AV.int .i64 i
@[simp] theorem Qba (l:List Int): (Q3 l).length=l.length:=by simp[Q3]
@[simp] theorem Hv (l:List Int) (i:Nat): (Q3 l)[i]? =(l[i]?).map fun i=>AV.int .i64 i:=by simp[Q3]
@[simp] theorem QiY (l:List Int): (Q3 l).map AV.strip=Q3 l:=by
 simp only[Q3,List.map_map];exact List.map_congr_left fun i _=>rfl
theorem NO (l:List Int) {n:Nat} (v:Int) (h:n < l.length): (Q3 l).take n ++ AV.int .i64 v:: (Q3 l).drop (n+1)=Q3 (l.set n v):=by
 rw[List.set_eq_take_append_cons_drop,if_pos h];simp[Q3]
theorem B9 (l:List Int):Q3 l=ZP (fun i:Int=>[AV.int .i64 i]) l:=by
 induction l with
 | nil=>rfl
 | cons a l ih=>
  rw[VB,← ih];rfl
theorem Gh (l:List Int):ZL (Q3 l) 0 1 l.length=Yr l:=by
 have h:=YX (f:=fun i:Int=>[AV.int .i64 i]) (k:=1) (fun _=>rfl) (fun _=>rfl) l [];rw[List.append_nil,← B9]at h;exact h
theorem Hw (n:Nat) (l:List Tm) (h:l.length=n):List.replicate n (AV.int .i64 0)=Q3 (l.map (pwT [])):=by
 subst h;simp only[Q3,List.map_map]
 induction l with
 | nil=>rfl
 | cons a l ih=>simp only[List.length_cons,List.replicate_succ,List.map_cons,ih];rfl
theorem Fu {cols:List Tm} {pre:List Pw} {q:Pw} {n:Nat} (ha:Asc cols) (hn:cols[n]? =some q.1) (hp: ∀p∈pre,Qm p.1 q.1≠0):
  (cols.map (pwT pre)).set n q.2=cols.map (pwT (pre ++ [q])):=by
 apply List.ext_getElem?;intro i;rw[List.getElem?_set,List.getElem?_map,List.getElem?_map];have hnl:n < cols.length:=(List.getElem?_eq_some_iff.1 hn).1;by_cases c:n=i
 ·subst c;rw[if_pos rfl,if_pos (by simpa using hnl),hn];simp[B6 hp]
 ·rw[if_neg c];cases hi:cols[i]? with
  | none=>rfl
  | some t=>
   have hne:Qm q.1 t≠0:=by
    intro e;have e2:=(YU).1 e;obtain⟨h1,rfl⟩:=List.getElem?_eq_some_iff.1 hi;obtain⟨h2,e3⟩:=List.getElem?_eq_some_iff.1 hn;rw[← e3]at e2;rcases Nat.lt_or_ge n i with h | h
    ·have:=List.pairwise_iff_getElem.1 ha n i h2 h1 h;rw[e2,YU.2 rfl]at this;omega
    ·have:=List.pairwise_iff_getElem.1 ha i n h1 h2 (by omega);rw[e2,YU.2 rfl]at this;omega
   simp[B7 hne]
theorem Bd {pre post:List Pw} {q:Pw} (h:Asc (Zb (pre ++ q:: post))): ∀p∈pre,Qm p.1 q.1≠0:=by
 intro p hp;simp only[Zb,List.map_append,List.map_cons]at h;have:=(List.pairwise_append.1 h).2.2 p.1 (List.mem_map.2 ⟨p,hp,rfl⟩) q.1 (by simp);omega
def QgF (l:List Int) (bs:List (List AV)) (r:Out):Prop:=∃o,r=some (.sl o 1 (Yr l),bs)
theorem QiQ (cols:List Tm) (g:List Pw) (B0:List (List AV)) (hcl:cols.length < 1000000) (hcm: ∀t∈cols,t.mass < 1000000) (ha:Asc cols) (hg:SmP g) (hga:Asc (Zb g)) (hin: ∀q∈g,q.1∈cols):
  ∀(post pre:List Pw) (o o2:Bool) (ρ:Nat→AV),g=pre ++ post→ρ 0= .sl o 4 (encTs cols)→ρ 5= .gs B0.length 0 1 cols.length→ρ 13= .sl o2 5 (Qt g)→ρ 14= .int .i64 g.length→ρ 15= .int .i64 pre.length→
  QgF (cols.map (pwT g)) B0 (R F.tb (.loop F.f377l0) ρ (B0 ++ [Q3 (cols.map (pwT pre))]) (Qh 0 (Qq F.tb F.f377r0 (Qx F.f377 B0)))):=by
 intro post
 induction post with
 | nil=>
  intro pre o o2 ρ hk h0 h5 h13 h14 h15;simp only[List.append_nil]at hk;subst hk;have hch:=Gh (cols.map (pwT g));rw[List.length_map]at hch;by_cases c:cols.length=0
  ·have:cols=[]:=List.eq_nil_of_length_eq_zero c;subst this;refine⟨false,?_⟩;rw[Qb F.f377l0.eq_1];simp at h5;simp[h0,h5,h13,h14,h15,F.f377r0,ZO,Yr]
  ·refine⟨true,?_⟩;have hgp:=Fb (cols.map (pwT g));have hB: (B0 ++ [Q3 (cols.map (pwT g))])[B0.length]? =some (Q3 (cols.map (pwT g))):=List.getElem?_concat_length;have hrl: (Q3 (cols.map (pwT g))).length=cols.length:=by simp
   generalize Q3 (cols.map (pwT g))=RR at *;generalize Yr (cols.map (pwT g))=EE at *;rw[Qb F.f377l0.eq_1];simp[-getElem?_pos,h0,h5,h13,h14,h15,F.f377r0,ZO,c,hB,hrl,hch,hgp]
 | cons q post IH=>
  intro pre o o2 ρ hk h0 h5 h13 h14 h15;have hgt:=Qn hk;have hll:=Qu hk;have hgl:=hg.1;have hw1:=wr1 pre.length (by omega);have hlt:=Qv hk;have hq:q∈g:=by rw[hk];simp
  obtain⟨n,hn⟩:=List.getElem?_of_mem (hin q hq);have hnl:n < cols.length:=(List.getElem?_eq_some_iff.1 hn).1;have hbs:=fun o B=>GZ (l:=cols) (t:=q.1) (B:=B) o (by omega) (fun p hp=>by have:=hcm p hp;unfold big;omega) (hg.big q hq) ha hn;have hst:=Fu ha hn (Bd (by rw[← hk];exact hga));have hput:=NO (cols.map (pwT pre)) q.2 (n:=n) (by simpa using hnl);rw[hst]at hput;have hB: (B0 ++ [Q3 (cols.map (pwT pre))])[B0.length]? =some (Q3 (cols.map (pwT pre))):=List.getElem?_concat_length;have hrl: (Q3 (cols.map (pwT pre))).length=cols.length:=by simp
  have hset: ∀x,(B0 ++ [Q3 (cols.map (pwT pre))]).set B0.length x=B0 ++ [x]:=fun x=>by rw[List.set_append_right _ _ (Nat.le_refl _)];simp
  have ih:=fun ρ=>IH (pre ++ [q]) o o2 ρ (by rw[hk];simp);generalize Q3 (cols.map (pwT pre))=RR at *;generalize Q3 (cols.map (pwT (pre ++ [q])))=R2 at *;have hn1:n+1≤cols.length:=hnl;have hnI: (n:Int) < (cols.length:Int):=by omega
  rw[Qb F.f377l0.eq_1];simp[-getElem?_pos,QL,List.getElem?_cons_zero,List.getElem?_cons_succ,h0,h5,h13,h14,h15,hlt,hgt,hw1,hbs,hnl,hn1,hnI,hB,hrl,hput,hset];apply ih <;> simp[h0,h5,h13,h14]
theorem Qdj (cols:List Tm) (g:List Pw) (o o2:Bool) (B0:List (List AV)) (hcl:cols.length < 1000000) (hcm: ∀t∈cols,t.mass < 1000000) (ha:Asc cols) (hg:SmP g) (hga:Asc (Zb g)) (hin: ∀q∈g,q.1∈cols):
  QgF (cols.map (pwT g)) B0 (call F.tb 377 [.sl o 4 (encTs cols),.sl o2 5 (Qt g)] B0):=by
 have h:=fun ρ=>QiQ cols g B0 hcl hcm ha hg hga hin g [] false false ρ rfl;have hr:=Hw cols.length cols rfl;have e8:cols.length*8≤140737488355328:=by omega
 have e4: (cols.length:Int)≤4611686018427387904:=by omega
 rw[Qa F.tb_377 _ _ rfl];rw[← hr]at h;generalize cols.map (pwT g)=EE at *;simp[F.f377C,e8,e4];apply h <;> simp
theorem QhC (cols:List Tm) (g:List Pw) (B0:List (List AV)) (hcl:cols.length < 1000000) (hcm: ∀t∈cols,t.mass < 1000000) (ha:Asc cols) (hg:SmP g) (hga:Asc (Zb g)) (hin: ∀q∈g,q.1∈cols):
  ∀(post pre:List Pw) (o o2:Bool) (ρ:Nat→AV),g=pre ++ post→ρ 0= .sl o 4 (encTs cols)→ρ 5= .gs B0.length 0 1 cols.length→ρ 13= .sl o2 5 (Qt g)→ρ 14= .int .i64 g.length→ρ 15= .int .i64 pre.length→
  R F.tb (.loop F.f563l0) ρ (B0 ++ [Q3 (cols.map (pwT pre))]) (Qh 0 (Qq F.tb F.f563r0 (Qx F.f563 B0)))=some (.gs B0.length 0 1 cols.length,B0 ++ [Q3 (cols.map (pwT g))]):=by
 intro post
 induction post with
 | nil=>
  intro pre o o2 ρ hk h0 h5 h13 h14 h15;simp only[List.append_nil]at hk;subst hk;rw[Qb F.f563l0.eq_1];simp[h0,h5,h13,h14,h15,F.f563r0]
 | cons q post IH=>
  intro pre o o2 ρ hk h0 h5 h13 h14 h15;have hgt:=Qn hk;have hll:=Qu hk;have hgl:=hg.1;have hw1:=wr1 pre.length (by omega);have hlt:=Qv hk;have hq:q∈g:=by rw[hk];simp
  obtain⟨n,hn⟩:=List.getElem?_of_mem (hin q hq);have hnl:n < cols.length:=(List.getElem?_eq_some_iff.1 hn).1;have hbs:=fun o B=>GZ (l:=cols) (t:=q.1) (B:=B) o (by omega) (fun p hp=>by have:=hcm p hp;unfold big;omega) (hg.big q hq) ha hn;have hst:=Fu ha hn (Bd (by rw[← hk];exact hga));have hput:=NO (cols.map (pwT pre)) q.2 (n:=n) (by simpa using hnl);rw[hst]at hput;have hB: (B0 ++ [Q3 (cols.map (pwT pre))])[B0.length]? =some (Q3 (cols.map (pwT pre))):=List.getElem?_concat_length;have hrl: (Q3 (cols.map (pwT pre))).length=cols.length:=by simp
  have hset: ∀x,(B0 ++ [Q3 (cols.map (pwT pre))]).set B0.length x=B0 ++ [x]:=fun x=>by rw[List.set_append_right _ _ (Nat.le_refl _)];simp
  have ih:=fun ρ=>IH (pre ++ [q]) o o2 ρ (by rw[hk];simp);generalize Q3 (cols.map (pwT pre))=RR at *;generalize Q3 (cols.map (pwT (pre ++ [q])))=R2 at *;generalize Q3 (cols.map (pwT g))=R3 at *;have hn1:n+1≤cols.length:=hnl;have hnI: (n:Int) < (cols.length:Int):=by omega
  rw[Qb F.f563l0.eq_1];simp[-getElem?_pos,QL,List.getElem?_cons_zero,List.getElem?_cons_succ,h0,h5,h13,h14,h15,hlt,hgt,hw1,hbs,hnl,hn1,hnI,hB,hrl,hput,hset];apply ih <;> simp[h0,h5,h13,h14]
theorem QdD (cols:List Tm) (g:List Pw) (o o2:Bool) (B0:List (List AV)) (hcl:cols.length < 1000000) (hcm: ∀t∈cols,t.mass < 1000000) (ha:Asc cols) (hg:SmP g) (hga:Asc (Zb g)) (hin: ∀q∈g,q.1∈cols):
  call F.tb 563 [.sl o 4 (encTs cols),.sl o2 5 (Qt g)] B0=some (.gs B0.length 0 1 cols.length,B0 ++ [Q3 (cols.map (pwT g))]):=by
 have h:=fun ρ=>QhC cols g B0 hcl hcm ha hg hga hin g [] false false ρ rfl;have hr:=Hw cols.length cols rfl;have e8:cols.length*8≤140737488355328:=by omega
 have e4: (cols.length:Int)≤4611686018427387904:=by omega
 rw[Qa F.tb_563 _ _ rfl];rw[← hr]at h;generalize Q3 (cols.map (pwT g))=EE at *;simp[F.f563C,e8,e4];apply h <;> simp
def nz (i:Int):Bool:= !decide (i=0)
theorem QdQ (i:Int) (bs:List (List AV)):call F.tb 598 [.int .i64 i] bs=some (.bool (nz i),bs):=by
 rw[Qa F.tb_598 _ _ rfl];unfold nz;by_cases h:i=0
 ·simp[F.f598C,h]
 ·simp[F.f598C,h]
theorem QaX (l:List Int) (id:Nat) (B:List (List AV)) (hB:B[id]? =some (Q3 l)) (hl:l.length < 1000000):
  ∀(post pre:List Int) (ρ:Nat→AV),l=pre ++ post→pre.any nz=false→ρ 0= .gs id 0 1 l.length→ρ 1= .fn 598 []→ρ 7= .int .i64 l.length→ρ 8= .int .i64 pre.length→
  T6 (l.any nz) B (R F.tb (.loop F.f600l0) ρ B (Qh 0 (Qq F.tb F.f600r0 (Qx F.f600 B)))):=by
 intro post
 induction post with
 | nil=>
  intro pre ρ hk hp h0 h1 h7 h8;simp only[List.append_nil]at hk;rw[← hk]at h8 hp;rw[Qb F.f600l0.eq_1];refine⟨-1,?_,by rw[hp];simp⟩;simp[h0,h1,h7,h8,F.f600r0]
 | cons x post IH=>
  intro pre ρ hk hp h0 h1 h7 h8;have hgt:=Qn hk;have hll:=Qu hk;have hw1:=wr1 pre.length (by omega);have hlt:=Qv hk;have hltN:pre.length < l.length:=by omega
  have hlt1:pre.length+1≤l.length:=by omega
  have hcall:=QdQ x B;have hrd: (Q3 l)[pre.length]? =some (.int .i64 x):=by rw[Hv,hgt];rfl
  have hrl:=Qba l;have ih:=fun ρ hpp=>IH (pre ++ [x]) ρ (by rw[hk];simp) hpp;generalize Q3 l=RR at *;rw[Qb F.f600l0.eq_1];cases ho:nz x
  ·rw[ho]at hcall;have ih2:=fun ρ=>ih ρ (by rw[List.any_append,hp];simp[ho]);simp[-getElem?_pos,QL,h0,h1,h7,h8,hlt,hltN,hlt1,hB,hrd,hrl,hw1,hcall,-List.any_eq_false,-List.any_eq_true];apply ih2 <;> simp[h0,h1,h7]
  ·rw[ho]at hcall;have hany:l.any nz=true:=List.any_eq_true.2 ⟨x,by rw[hk];simp,ho⟩;refine⟨pre.length,?_,by rw[hany];simp⟩;simp[-getElem?_pos,QL,h0,h1,h7,h8,hlt,hltN,hlt1,hB,hrd,hrl,hcall]
theorem QdR (l:List Int) (id:Nat) (B:List (List AV)) (hB:B[id]? =some (Q3 l)) (hl:l.length < 1000000):
  call F.tb 599 [.gs id 0 1 l.length,.fn 598 []] B=some (.bool (l.any nz),B):=by
 have h1:=fun ρ=>QaX l id B hB hl l [] ρ rfl rfl;have h2:T6 (l.any nz) B (call F.tb 600 [.gs id 0 1 l.length,.fn 598 []] B):=by
  rw[Qa F.tb_600 _ _ rfl];simp[F.f600C,-List.any_eq_false,-List.any_eq_true];apply h1 <;> simp
 obtain⟨i,hi,hb⟩:=h2;rw[Qa F.tb_599 _ _ rfl];simp[F.f599C,hi,-List.any_eq_false,-List.any_eq_true];cases hx:l.any nz
 ·rw[hx]at hb;simp at hb;simpa using hb
 ·rw[hx]at hb;simp at hb;simpa using hb
def Zt:List Int→List (List Pw)→Tm→Int
 | c:: cs,g:: gs,t=>c*pwT g t+Zt cs gs t
 | _,_,_=>0
theorem Oe: ∀{cs:List Int} {gs:List (List Pw)} (c:Int) (g:List Pw) (t:Tm),cs.length=gs.length→Zt (cs ++ [c]) (gs ++ [g]) t=Zt cs gs t+c*pwT g t
 | [],[],c,g,t,_=>by simp[Zt]
 | a:: cs,b:: gs,c,g,t,h=>by
  have:=Oe (cs:=cs) (gs:=gs) c g t (by simpa using h);simp only[List.cons_append,Zt,this];omega
theorem Hh {c p:Int} (hc:c.natAbs≤35184372088832) (hp:p.natAbs≤1000): (c*p).natAbs≤35184372088832000:=by
 rw[Int.natAbs_mul];exact Nat.le_trans (Nat.mul_le_mul hc hp) (by decide)
def okG (g:List Pw):Prop:=Ze g=0∧SmP g
theorem okG.asc {g:List Pw} (h:okG g):Asc (Zb g):=(WB h.1 h.2.big).1.asc
theorem okG.bd {g:List Pw} (h:okG g): ∀q∈g,-1000≤q.2∧q.2≤1000:=fun q hq=>by
 have h1:=h.1;unfold Ze at h1;split at h1
 ·cases h1
 ·exact⟨((MO g none h1).1 q hq).2.2.2.1,((MO g none h1).1 q hq).2.2.2.2⟩
theorem okG.len {g:List Pw} (h:okG g):g.length≤200:=(WB h.1 h.2.big).2.1
theorem MD: ∀{g:List Pw} {t:Tm},(∀q∈g,-1000≤q.2∧q.2≤1000)→(pwT g t).natAbs≤1000
 | [],t,_=>by simp[pwT]
 | q:: g,t,h=>by
  have h1:=h q (by simp);have h2:=MD (g:=g) (t:=t) fun x hx=>h x (by simp[hx]);simp only[pwT];split
  ·omega
  ·exact h2
theorem Lp {c:Int} (h:ZB c=false):c.natAbs≤35184372088832:=by
 simp[ZB]at h;omega
theorem IV: ∀{cs:List Int} {gs:List (List Pw)} {t:Tm},(∀c∈cs,ZB c=false)→(∀g∈gs,okG g)→(Zt cs gs t).natAbs≤gs.length*35184372088832000
 | [],gs,t,_,_=>by cases gs <;> simp[Zt]
 | c:: cs,[],t,_,_=>by simp[Zt]
 | c:: cs,g:: gs,t,h1,h2=>by
  have a:=IV (cs:=cs) (gs:=gs) (t:=t) (fun x hx=>h1 x (by simp[hx])) (fun x hx=>h2 x (by simp[hx]));have b:=Hh (Lp (h1 c (by simp))) (MD (t:=t) (h2 g (by simp)).bd);simp only[Zt,List.length_cons,Nat.succ_mul];omega
theorem Qh6 (cols:List Tm) (g:List Pw) (ci:Int) (cs:List Int) (i:Nat) (B0:List (List AV)) (f:Tm→Int) (hcl:cols.length < 1000000) (hc:cs[i]? =some ci) (hm: ∀t,IntKind.i64.wrap (ci*pwT g t)=ci*pwT g t) (hs: ∀t,IntKind.i64.wrap (f t - ci*pwT g t)=f t - ci*pwT g t) (c:AC) (K:Kn) (X:Out):
  ∀(post pre:List Tm) (o o2:Bool) (ρ:Nat→AV),cols=pre ++ post→ρ 2= .sl o 1 (Yr cs)→ρ 8= .gs B0.length 0 1 cols.length→ρ 9= .int .i64 i→ρ 54= .sl o2 1 (Yr (cols.map (pwT g)))→ρ 55= .int .i64 cols.length→ρ 56= .int .i64 pre.length→
   (∀ρ':Nat→AV,(∀j,j < 11→ρ' j=ρ j)→ρ' 45=ρ 45→ρ' 46=ρ 46→ρ' 47=ρ 47→R F.tb c ρ' (B0 ++ [Q3 (cols.map fun t=>f t - ci*pwT g t)]) K=X)→
  R F.tb (.loop F.f367l0) ρ (B0 ++ [Q3 ((pre.map fun t=>f t - ci*pwT g t)++ post.map f)]) (Qh 2 (Qh 1 (Qq F.tb c K)))=X:=by
 intro post
 induction post with
 | nil=>
  intro pre o o2 ρ hk h2 h8 h9 h54 h55 h56 H;simp only[List.append_nil]at hk;subst hk;simp only[List.map_nil,List.append_nil];generalize Q3 (cols.map fun t=>f t - ci*pwT g t)=RR at *;rw[Qb F.f367l0.eq_1];simp[h2,h8,h9,h54,h55,h56];refine H _ ?_ ?_ ?_ ?_
  ·intro j hj;have:j≠57:=by omega
   simp[this]
  ·simp
  ·simp
  ·simp
 | cons t post IH=>
  intro pre o o2 ρ hk h2 h8 h9 h54 h55 h56 H;have hgt:=Qn hk;have hll:=Qu hk;have hw1:=wr1 pre.length (by omega);have hlt:=Qv hk;have hltN:pre.length < cols.length:=by omega
  have hlt1:pre.length+1≤cols.length:=by omega
  have hm':=hm t;have hs':=hs t;have hrl: (Q3 ((pre.map fun t=>f t - ci*pwT g t)++ (t:: post).map f)).length=cols.length:=by simp;omega
  have hrd: (Q3 ((pre.map fun t=>f t - ci*pwT g t)++ (t:: post).map f))[pre.length]? =some (.int .i64 (f t)):=by
   rw[Hv,List.getElem?_append_right (by simp)];simp
  have hput:=NO ((pre.map fun t=>f t - ci*pwT g t)++ (t:: post).map f) (n:=pre.length) (f t - ci*pwT g t) (by simp);have hst: ((pre.map fun t=>f t - ci*pwT g t)++ (t:: post).map f).set pre.length (f t - ci*pwT g t)=((pre ++ [t]).map fun t=>f t - ci*pwT g t)++ post.map f:=by
   rw[List.set_append_right _ _ (by simp)];simp
  rw[hst]at hput;have hB: ∀x:List AV,(B0 ++ [x])[B0.length]? =some x:=fun x=>List.getElem?_concat_length;have hset: ∀x y:List AV,(B0 ++ [x]).set B0.length y=B0 ++ [y]:=fun x y=>by rw[List.set_append_right _ _ (Nat.le_refl _)];simp
  have ih:=fun ρ=>IH (pre ++ [t]) o o2 ρ (by rw[hk];simp);generalize Q3 ((pre.map fun t=>f t - ci*pwT g t)++ (t:: post).map f)=RR at *;generalize Q3 (((pre ++ [t]).map fun t=>f t - ci*pwT g t)++ post.map f)=R2 at *;generalize Q3 (cols.map fun t=>f t - ci*pwT g t)=R3 at *;generalize f t=ft at *;have hgm: (cols.map (pwT g))[pre.length]? =some (pwT g t):=by rw[List.getElem?_map,hgt];rfl
  generalize cols.map (pwT g)=PP at *;generalize pwT g t=pt at *;rw[Qb F.f367l0.eq_1];simp[-getElem?_pos,QL,List.getElem?_cons_zero,List.getElem?_cons_succ,h2,h8,h9,h54,h55,h56,hlt,hltN,hlt1,hw1,hgm,hc,hB,hrl,hrd,hm',hs',hput,hset];refine ih _ ?_ ?_ ?_ ?_ ?_ ?_ ?_
  ·simp[h2]
  ·simp[h8]
  ·simp[h9]
  ·simp[h54]
  ·simp[h55]
  ·simp
  ·intro ρ' gj g45 g46 g47;refine H ρ' (fun j hj=> ?_) ?_ ?_ ?_
   ·rw[gj j hj];have e1:j≠11:=by omega
    have e2:j≠12:=by omega
    have e3: ¬(56≤j):=by omega
    simp[e1,e2,show j≠56 by omega,show j≠57 by omega,show j≠58 by omega,show j≠59 by omega,show j≠60 by omega,show j≠61 by omega,show j≠62 by omega,show j≠63 by omega,show j≠64 by omega,show j≠65 by omega,show j≠66 by omega,show j≠67 by omega,show j≠68 by omega,show j≠69 by omega,show j≠70 by omega,show j≠71 by omega,show j≠72 by omega,show j≠73 by omega]
   ·rw[g45];simp
   ·rw[g46];simp
   ·rw[g47];simp
theorem MG {cols:List Tm} {f g:Tm→Int} (h: ∀t,f t=g t):Q3 (cols.map f)=Q3 (cols.map g):=by rw[List.map_congr_left fun t _=>h t]
theorem Qh7 (l:List (List Pw)) (m:List Pw) (cs:List Int) (cols:List Tm) (B0:List (List AV)) (hl:l.length≤200) (hlc:cs.length=l.length) (hcs: ∀c∈cs,ZB c=false) (hg: ∀g∈l,okG g) (hm:okG m)
  (hcl:cols.length < 1000000) (hcm: ∀t∈cols,t.mass < 1000000) (ha:Asc cols) (hin: ∀g∈l,∀q∈g,q.1∈cols):
  ∀(post pre:List (List Pw)) (cpost cpre:List Int) (o o2:Bool) (ρ:Nat→AV),l=pre ++ post→cs=cpre ++ cpost→cpre.length=pre.length→
   ρ 2= .sl o 1 (Yr cs)→ρ 7= .sl true 4 (encTs cols)→ρ 8= .gs B0.length 0 1 cols.length→ρ 45= .sl o2 1 (Q1 l)→ρ 46= .int .i64 l.length→ρ 47= .int .i64 pre.length→
  R F.tb (.loop F.f367l1) ρ (B0 ++ [Q3 (cols.map fun t=>pwT m t - Zt cpre pre t)]) (Qh 0 (Qq F.tb F.f367r1 (Qx F.f367 B0)))=some (.bool (!(cols.map fun t=>pwT m t - Zt cs l t).any nz),B0):=by
 intro post
 induction post with
 | nil=>
  intro pre cpost cpre o o2 ρ hk hc hcl2 h2 h7 h8 h45 h46 h47;simp only[List.append_nil]at hk;subst hk;have:cpost=[]:=by
   have:=congrArg List.length hc;simp at this;exact List.eq_nil_of_length_eq_zero (by omega)
  subst this;simp only[List.append_nil]at hc;subst hc;have hB: ∀x:List AV,(B0 ++ [x])[B0.length]? =some x:=fun x=>List.getElem?_concat_length;have h599:=QdR (cols.map fun t=>pwT m t - Zt cs l t) B0.length (B0 ++ [Q3 (cols.map fun t=>pwT m t - Zt cs l t)]) (hB _) (by simp;omega);rw[List.length_map]at h599;generalize (cols.map fun t=>pwT m t - Zt cs l t).any nz=X at *;generalize Q3 (cols.map fun t=>pwT m t - Zt cs l t)=RR at *;rw[Qb F.f367l1.eq_1];simp[h2,h7,h8,h45,h46,h47,F.f367r1,h599]
 | cons g post IH=>
  intro pre cpost cpre o o2 ρ hk hc hcl2 h2 h7 h8 h45 h46 h47;have hgt:=Qn hk;have hll:=Qu hk;have hw1:=wr1 pre.length (by omega);have hlt:=Qv hk;cases cpost with
  | nil=>have:=congrArg List.length hc;simp at this;omega
  | cons ci cpost=>
   have hci:cs[pre.length]? =some ci:=by rw[hc,← hcl2];simp
   have okg:=hg g (by rw[hk];simp);have hco:ZB ci=false:=hcs ci (by rw[hc];simp);have b1: ∀t,(ci*pwT g t).natAbs≤35184372088832000:=fun t=>Hh (Lp hco) (MD okg.bd);have b2: ∀t,(Zt cpre pre t).natAbs≤pre.length*35184372088832000:=fun t=>IV (fun c h=>hcs c (by rw[hc];simp[h])) (fun x h=>hg x (by rw[hk];simp[h]));have b3: ∀t,(pwT m t).natAbs≤1000:=fun t=>MD hm.bd;have hm1: ∀t,IntKind.i64.wrap (ci*pwT g t)=ci*pwT g t:=fun t=>QW (by have:=b1 t;omega) (by have:=b1 t;omega);have hs1: ∀t,IntKind.i64.wrap (pwT m t - Zt cpre pre t - ci*pwT g t)=pwT m t - Zt cpre pre t - ci*pwT g t:=fun t=>by
    have h1:=b1 t;have h2:=b2 t;have h3:=b3 t;have h4:pre.length≤199:=by omega
    have h5:pre.length*35184372088832000≤199*35184372088832000:=Nat.mul_le_mul_right _ h4;exact QW (by omega) (by omega)
   have h:=fun o o2 ρ c K X=>Qh6 cols g ci cs pre.length B0 (fun t=>pwT m t - Zt cpre pre t) hcl hci hm1 hs1 c K X cols [] o o2 ρ rfl;have hrow:Q3 (cols.map fun t=>pwT m t - Zt cpre pre t - ci*pwT g t)=Q3 (cols.map fun t=>pwT m t - Zt (cpre ++ [ci]) (pre ++ [g]) t):=MG fun t=>by rw[Oe ci g t hcl2];omega
   have ih:=fun ρ=>IH (pre ++ [g]) cpost (cpre ++ [ci]) o o2 ρ (by rw[hk];simp) (by rw[hc];simp) (by simp[hcl2]);obtain⟨o3,hpo⟩:=Qdj cols g false false (B0 ++ [Q3 (cols.map fun t=>pwT m t - Zt cpre pre t)]) hcl hcm ha okg.2 okg.asc (hin g (by rw[hk];simp));rw[hrow]at h;simp only[List.map_nil,List.nil_append]at h;generalize Q3 (cols.map fun t=>pwT m t - Zt cpre pre t)=R1 at *;generalize Q3 (cols.map fun t=>pwT m t - Zt (cpre ++ [ci]) (pre ++ [g]) t)=R2 at *;generalize (cols.map fun t=>pwT m t - Zt cs l t).any nz=X at *;have hpl: (cols.map (pwT g)).length=cols.length:=by simp
   generalize cols.map (pwT g)=PP at *;rw[Qb F.f367l1.eq_1];simp[h2,h7,h8,h45,h46,h47,hlt,hgt,hpo,hpl];refine h o o3 _ _ _ _ ?_ ?_ ?_ ?_ ?_ ?_ ?_
   ·simp[h2]
   ·simp[h8]
   ·simp
   ·simp
   ·simp
   ·simp
   ·intro ρ' gj g45 g46 g47;simp[F.f367r0,g47,h47,hw1];have e2:=gj 2 (by omega);have e7:=gj 7 (by omega);have e8:=gj 8 (by omega);refine ih _ ?_ ?_ ?_ ?_ ?_ ?_
    ·simp[e2,h2]
    ·simp[e7,h7]
    ·simp[e8,h8]
    ·simp[g45,h45]
    ·simp[g46,h46]
    ·simp
def UL (l:List (List Pw)) (m:List Pw) (cs:List Int):Bool:=
 !(decide (200 < l.length) || !decide (cs.length=l.length) || cs.any ZB || decide (Ze m≠0) || l.any XK) && (Yj (l ++ [m])).all (fun t=>decide (Zt cs l t=pwT m t))
theorem QgL {cols:List Tm} {m:List Pw} {cs:List Int} {l:List (List Pw)}: (!(cols.map fun t=>pwT m t - Zt cs l t).any nz)=cols.all (fun t=>decide (Zt cs l t=pwT m t)):=by
 rw[List.any_map,List.not_any_eq_all_not];congr 1;funext t;simp only[nz,Function.comp_apply,Bool.not_not];exact decide_eq_decide.2 (by omega)
theorem Mb {l:List (List Pw)} (hl:l.length≤1000) (hg: ∀g∈l,okG g): (Yj l).length < 1000000∧(∀t∈Yj l,t.mass < 1000000)∧Asc (Yj l)∧∀g∈l,∀q∈g,q.1∈Yj l:=by
 refine⟨?_,?_,R8 _,fun g hg2 q hq=>W2.2 (QaZ hg2 hq)⟩
 ·have h1: ∀(l:List (List Pw)),(∀g∈l,okG g)→(XU l).length≤200*l.length:=by
   intro l
   induction l with
   | nil=>intro _;simp[XU]
   | cons g l ih=>
    intro h;have a:=(h g (by simp)).len;have b:=ih fun x hx=>h x (by simp[hx]);rw[PW,List.length_append,List.length_cons];have: (Zb g).length=g.length:=by simp[Zb]
    omega
  have h2:=h1 l hg;have h3:=NS (XU l);unfold Yj;omega
 ·intro t ht;obtain⟨g,hg2,q,hq,rfl⟩:=A9 (W2.1 ht);exact(hg g hg2).2.2 q hq
theorem GK {l:List (List Pw)} (h:l.any XK=false) (hs: ∀g∈l,SmP g): ∀g∈l,okG g:=fun g hg=>by
 have:=List.any_eq_false.1 h g hg;exact⟨by simpa[XK]using this,hs g hg⟩
theorem Qdd (l:List (List Pw)) (m:List Pw) (cs:List Int) (o o2 o3:Bool) (B0:List (List AV)) (hl:l.length < 1000000) (hs: ∀g∈l,SmP g) (hm:SmP m) (hc:cs.length < 1000000):
  call F.tb 367 [.sl o 1 (Q1 l),.sl o2 5 (Qt m),.sl o3 1 (Yr cs)] B0=some (.bool (UL l m cs),B0):=by
 have c356:=fun o=>M9 368 [] ZB cs o B0 (fun c _=>Qde c _) hc (by simp);have c197:=fun o=>RM m o B0 (by have:=hm.1;omega) hm.big;have c370:=fun o=>Qdg l o B0 hs hl;rw[Qa F.tb_367 _ _ rfl];unfold UL;by_cases k1:200 < l.length
 ·have k1': (200:Int) < (l.length:Int):=by omega
  simp[F.f367C,k1,k1']
 ·have k1': ¬(200:Int) < (l.length:Int):=by omega
  by_cases k2:cs.length=l.length
  ·have k2': (cs.length:Int)=(l.length:Int):=by omega
   cases k3:cs.any ZB
   ·rw[k3]at c356;by_cases k4:Ze m=0
    ·cases k5:l.any XK
     ·rw[k5]at c370;have okm:okG m:=⟨k4,hm⟩;have okl:=GK k5 hs;have oka: ∀g∈l ++ [m],okG g:=fun g hg=>by
       rcases List.mem_append.1 hg with h | h
       ·exact okl g h
       ·simp at h;subst h;exact okm
      obtain⟨f1,f2,f3,f4⟩:=Mb (l:=l ++ [m]) (by simp;omega) oka;have c372: ∀o,call F.tb 372 [.sl o 1 (Q1 l)] B0=some (.sl true 1 (Q1 l),B0):=fun o=>by
       have e24:l.length*24≤140737488355328:=by omega
       rw[Y6 F.tb_372];simp[Xg,UH,e24]
      have e24: (l.length+1)*24≤140737488355328:=by omega
      have c373:=fun o=>Qdh (l ++ [m]) o B0 (by simp;omega) fun g hg=>⟨(oka g hg).2,(oka g hg).len⟩;have c563:=fun o o2=>QdD (Yj (l ++ [m])) m o o2 B0 f1 f2 f3 okm.2 okm.asc (f4 m (by simp));have h:=fun o o2 ρ=>Qh7 l m cs (Yj (l ++ [m])) B0 (by omega) k2 (fun c hc=>by simpa using List.any_eq_false.1 k3 c hc) okl okm f1 f2 f3 (fun g hg=>f4 g (by simp[hg])) l [] cs [] o o2 ρ rfl rfl rfl;have hrow:Q3 ((Yj (l ++ [m])).map fun t=>pwT m t - Zt [] [] t)=Q3 ((Yj (l ++ [m])).map (pwT m)):=MG fun t=>by simp[Zt]
      rw[hrow,QgL]at h;generalize (Yj (l ++ [m])).all (fun t=>decide (Zt cs l t=pwT m t))=X at *;generalize Q3 ((Yj (l ++ [m])).map (pwT m))=R1 at *;generalize Yj (l ++ [m])=CC at *;have happ:=Me l [m];have hone:=US m;simp[F.f367C,k1,k1',k2,k2',k4,c356,c197,c370,c372,e24,hone,happ,c373,c563];refine h false false _ ?_ ?_ ?_ ?_ ?_ ?_ <;> simp
     ·rw[k5]at c370;simp[F.f367C,k1,k1',k2,k2',k4,c356,c197,c370]
    ·simp[F.f367C,k1,k1',k2,k2',k4,c356,c197]
   ·rw[k3]at c356;simp[F.f367C,k1,k1',k2,k2',c356]
  ·have k2': ¬(cs.length:Int)=(l.length:Int):=by omega
   simp[F.f367C,k1,k1',k2,k2']
theorem Qbd (g:List Pw) (t:Tm) (bs:List (List AV)) (hg:SmP g) (ht:t.mass < 1000000):
  ∀(post pre:List Pw) (o:Bool) (ρ:Nat→AV),g=pre ++ post→ρ 0= .sl o 5 (Qt g)→ρ 3= .bx (Qc t)→ρ 5= .int .i64 pre.length→
  R F.tb (.loop F.f326l0) ρ bs (Qh 0 (Qq F.tb F.f326r0 (Qx F.f326 bs)))=some (.int .i64 (pwT post t),bs):=by
 intro post
 induction post with
 | nil=>
  intro pre o ρ hk h0 h3 h5;simp only[List.append_nil]at hk;rw[← hk]at h5;rw[Qb F.f326l0.eq_1];simp[h0,h3,h5,pwT,F.f326r0]
 | cons q post IH=>
  intro pre o ρ hk h0 h3 h5;have hgt:=Qn hk;have hll:=Qu hk;have hgl:=hg.1;have hw1:=wr1 pre.length (by omega);have hlt:=Qv hk;have hc:=Yi q.1 t bs (hg.big q (by rw[hk];simp)) (by unfold big;omega);have ih:=fun ρ=>IH (pre ++ [q]) o ρ (by rw[hk];simp);rw[Qb F.f326l0.eq_1];by_cases c:Qm q.1 t=0
  ·simp only[pwT,if_pos c];simp[-getElem?_pos,QL,List.getElem?_cons_zero,List.getElem?_cons_succ,h0,h3,h5,hlt,hgt,hc,c]
  ·simp only[pwT,if_neg c];generalize pwT post t=X at *;simp[-getElem?_pos,QL,List.getElem?_cons_zero,List.getElem?_cons_succ,h0,h3,h5,hlt,hgt,hc,c,hw1];apply ih <;> simp[h0,h3]
theorem GU (g:List Pw) (t:Tm) (o:Bool) (bs:List (List AV)) (hg:SmP g) (ht:t.mass < 1000000):call F.tb 326 [.sl o 5 (Qt g),.agg (Qc t)] bs=some (.int .i64 (pwT g t),bs):=by
 have h:=fun ρ=>Qbd g t bs hg ht g [] false ρ rfl;rw[Qa F.tb_326 _ _ rfl];generalize pwT g t=X at *;simp[F.f326C];apply h <;> simp
theorem QiG (l:List (List Pw)) (g:List Pw) (i:Nat) (bs:List (List AV)) (hi:l[i]? =some g) (hg:SmP g) (c:AC) (K:Kn) (X:Out):
  ∀(post pre:List Pw) (acc:List Tm) (o o2:Bool) (ρ:Nat→AV),g=pre ++ post→acc.length+post.length < 500000→(∀x∈acc,x.mass < 1000000)→
   ρ 0= .sl o 1 (Q1 l)→ρ 3= .sl o2 4 (encTs acc)→ρ 4= .int .i64 i→ρ 5= .int .i64 pre.length→
   (∀(ρ':Nat→AV) (o2:Bool),ρ' 0=ρ 0→ρ' 3= .sl o2 4 (encTs (ZQ acc (Zb post)))→ρ' 4=ρ 4→R F.tb c ρ' bs K=X)→
  R F.tb (.loop F.f324l0) ρ bs (Qh 2 (Qh 1 (Qq F.tb c K)))=X:=by
 intro post
 induction post with
 | nil=>
  intro pre acc o o2 ρ hk hal ham h0 h3 h4 h5 H;simp only[List.append_nil]at hk;rw[← hk]at h5;rw[Qb F.f324l0.eq_1];simp[-getElem?_pos,QL,List.getElem?_cons_zero,List.getElem?_cons_succ,h0,h3,h4,h5,hi];refine H _ o2 ?_ ?_ ?_ <;> simp[h0,h3,ZQ,Zb]
 | cons q post IH=>
  intro pre acc o o2 ρ hk hal ham h0 h3 h4 h5 H;have hgt:=Qn hk;have hll:=Qu hk;have hgl:=hg.1;have hw1:=wr1 pre.length (by omega);have hlt:=Qv hk;simp only[List.length_cons]at hal;have hqm:=hg.2 q (by rw[hk];simp);have hc:=fun o=>Nw acc q.1 o bs (by omega) (fun x hx=>by have:=ham x hx;unfold big;omega) (by unfold big;omega);have hlen:=To q.1 acc;have ih:=fun ρ=>IH (pre ++ [q]) (Yh q.1 acc) o false ρ (by rw[hk];simp) (by omega) (fun x hx=>by
   rcases Ui.1 hx with rfl | hx
   ·exact hqm
   ·exact ham x hx)
  rw[Qb F.f324l0.eq_1];simp[-getElem?_pos,QL,List.getElem?_cons_zero,List.getElem?_cons_succ,h0,h3,h4,h5,hi,hlt,hgt,hw1,hc];refine ih _ ?_ ?_ ?_ ?_ ?_
  ·simp[h0]
  ·simp
  ·simp[h4]
  ·simp
  ·intro ρ' o3 g0 g3 g4;refine H ρ' o3 ?_ (by simpa[Zb,ZQ]using g3) ?_
   ·rw[g0];simp
   ·rw[g4];simp
theorem HQ (acc l:List Tm): (ZQ acc l).length≤acc.length+l.length:=R7 l acc
theorem QiH (l:List (List Pw)) (bs:List (List AV)) (hl:l.length < 1000) (hs: ∀g∈l,SmP g∧g.length≤200):
  ∀(post pre:List (List Pw)) (acc:List Tm) (o o2:Bool) (ρ:Nat→AV),l=pre ++ post→acc.length+200*post.length≤200*l.length→(∀x∈acc,x.mass < 1000000)→
   ρ 0= .sl o 1 (Q1 l)→ρ 3= .sl o2 4 (encTs acc)→ρ 4= .int .i64 pre.length→
  R F.tb (.loop F.f324l1) ρ bs (Qh 0 (Qq F.tb F.f324r1 (Qx F.f324 bs)))=some (.sl false 4 (encTs (ZQ acc (XU post))),bs):=by
 intro post
 induction post with
 | nil=>
  intro pre acc o o2 ρ hk hal ham h0 h3 h4;simp only[List.append_nil]at hk;rw[← hk]at h4;rw[Qb F.f324l1.eq_1];simp[h0,h3,h4,F.f324r1,XU,ZQ]
 | cons g post IH=>
  intro pre acc o o2 ρ hk hal ham h0 h3 h4;have hgt:=Qn hk;have hll:=Qu hk;have hw1:=wr1 pre.length (by omega);have hlt:=Qv hk;obtain⟨hsg,hg2⟩:=hs g (by rw[hk];simp);simp only[List.length_cons]at hal;have hpl: (Zb g).length=g.length:=by simp[Zb]
  have hal2:=HQ acc (Zb g);have ih:=fun o2 ρ=>IH (pre ++ [g]) (ZQ acc (Zb g)) o o2 ρ (by rw[hk];simp) (by omega) (fun x hx=>by
   rcases Ps.1 hx with hx | hx
   ·exact ham x hx
   ·obtain⟨q,hq,rfl⟩:=List.mem_map.1 hx;exact hsg.2 q hq)
  have e:ZQ acc (XU (g:: post))=ZQ (ZQ acc (Zb g)) (XU post):=by rw[PW,FZ]
  have h:=fun o o2 ρ c K X=>QiG l g pre.length bs hgt hsg c K X g [] acc o o2 ρ rfl (by omega) ham;rw[e,Qb F.f324l1.eq_1];simp[h0,h3,h4,hlt];refine h o o2 _ _ _ _ ?_ ?_ ?_ ?_ ?_
  ·simp[h0]
  ·simp[h3]
  ·simp[h4]
  ·simp
  ·intro ρ' o3 g0 g3 g4;simp[F.f324r0,g4,h4,hw1];refine ih o3 _ ?_ ?_ ?_
   ·simp[g0,h0]
   ·simp[g3]
   ·simp
theorem Qc2 (l:List (List Pw)) (o:Bool) (bs:List (List AV)) (hl:l.length < 1000) (hs: ∀g∈l,SmP g∧g.length≤200):
  call F.tb 324 [.sl o 1 (Q1 l)] bs=some (.sl false 4 (encTs (Yj l)),bs):=by
 have h:=fun o ρ=>QiH l bs hl hs l [] [] o true ρ rfl (by simp) (by simp);rw[Qa F.tb_324 _ _ rfl];have e:encTs (ZQ [] (XU l))=encTs (Yj l):=rfl;rw[e]at h;generalize encTs (Yj l)=E1 at *;simp[F.f324C];refine h false _ ?_ ?_ ?_ <;> simp[encTs]
theorem QiS (l:List (List Pw)) (cs:List Int) (cols:List Tm) (k:Nat) (t:Tm) (bs:List (List AV)) (hl:l.length≤200) (hlc:cs.length=l.length) (hcs: ∀c∈cs,ZB c=false) (hg: ∀g∈l,okG g) (hk:cols[k]? =some t) (ht:t.mass < 1000000) (c:AC) (K:Kn) (X:Out):
  ∀(post pre:List (List Pw)) (cpost cpre:List Int) (o o2 o3:Bool) (ρ:Nat→AV),l=pre ++ post→cs=cpre ++ cpost→cpre.length=pre.length→
   ρ 0= .sl o 1 (Q1 l)→ρ 2= .sl o2 1 (Yr cs)→ρ 8= .sl o3 4 (encTs cols)→ρ 9= .int .i64 k→ρ 10= .int .i64 (Zt cpre pre t)→ρ 11= .int .i64 pre.length→
   (∀ρ':Nat→AV,(∀j,j < 10→ρ' j=ρ j)→ρ' 10= .int .i64 (Zt cs l t)→R F.tb c ρ' bs K=X)→
  R F.tb (.loop F.f392l1) ρ bs (Qh 4 (Qq F.tb c K))=X:=by
 intro post
 induction post with
 | nil=>
  intro pre cpost cpre o o2 o3 ρ hkk hc hcl2 h0 h2 h8 h9 h10 h11 H;simp only[List.append_nil]at hkk;subst hkk;have:cpost=[]:=by
   have:=congrArg List.length hc;simp at this;exact List.eq_nil_of_length_eq_zero (by omega)
  subst this;simp only[List.append_nil]at hc;subst hc;generalize Zt cs l t=D at *;rw[Qb F.f392l1.eq_1];simp[h0,h2,h8,h9,h10,h11];refine H _ (fun j hj=> ?_) ?_
  ·simp[show j≠66 by omega,show j≠67 by omega,show j≠68 by omega,show j≠69 by omega]
  ·simp[h10]
 | cons g post IH=>
  intro pre cpost cpre o o2 o3 ρ hkk hc hcl2 h0 h2 h8 h9 h10 h11 H;have hgt:=Qn hkk;have hll:l.length=pre.length+ (post.length+1):=by rw[hkk];simp
  have hw1:=wr1 pre.length (by omega);have hlt: (pre.length:Int) < (l.length:Int):=by omega
  cases cpost with
  | nil=>have:=congrArg List.length hc;simp at this;omega
  | cons ci cpost=>
   have hci:cs[pre.length]? =some ci:=by rw[hc,← hcl2];simp
   have okg:=hg g (by rw[hkk];simp);have hco:ZB ci=false:=hcs ci (by rw[hc];simp);have b1: (ci*pwT g t).natAbs≤35184372088832000:=Hh (Lp hco) (MD okg.bd);have b2: (Zt cpre pre t).natAbs≤pre.length*35184372088832000:=IV (fun c h=>hcs c (by rw[hc];simp[h])) (fun x h=>hg x (by rw[hkk];simp[h]));have hm1:IntKind.i64.wrap (ci*pwT g t)=ci*pwT g t:=QW (by omega) (by omega);have hd:=Oe (cs:=cpre) (gs:=pre) ci g t hcl2;have hs1:IntKind.i64.wrap (Zt cpre pre t+ci*pwT g t)=Zt (cpre ++ [ci]) (pre ++ [g]) t:=by
    rw[hd];have h5:pre.length*35184372088832000≤199*35184372088832000:=Nat.mul_le_mul_right _ (by omega);exact QW (by omega) (by omega)
   have ih:=fun ρ=>IH (pre ++ [g]) cpost (cpre ++ [ci]) o o2 o3 ρ (by rw[hkk];simp) (by rw[hc];simp) (by simp[hcl2]);have h326:=GU g t false bs okg.2 ht;generalize Zt cpre pre t=D1 at *;generalize Zt (cpre ++ [ci]) (pre ++ [g]) t=D2 at *;generalize Zt cs l t=D3 at *;generalize pwT g t=pt at *;rw[Qb F.f392l1.eq_1];simp[-getElem?_pos,QL,List.getElem?_cons_zero,List.getElem?_cons_succ,h0,h2,h8,h9,h10,h11,hlt,hgt,hci,hk,h326,hm1,hs1,hw1];refine ih _ ?_ ?_ ?_ ?_ ?_ ?_ ?_
   ·simp[h0]
   ·simp[h2]
   ·simp[h8]
   ·simp[h9]
   ·simp
   ·simp
   ·intro ρ' gj g10;refine H ρ' (fun j hj=> ?_) g10;rw[gj j hj];simp[show j≠10 by omega,show j≠11 by omega,show j≠66 by omega,show j≠67 by omega,show j≠68 by omega,show j≠69 by omega,show j≠70 by omega,show j≠71 by omega,show j≠72 by omega,show j≠73 by omega,show j≠74 by omega,show j≠75 by omega,show j≠76 by omega,show j≠77 by omega,show j≠78 by omega,show j≠79 by omega,show j≠80 by omega,show j≠81 by omega,show j≠82 by omega,show j≠83 by omega,show j≠84 by omega,show j≠85 by omega,show j≠86 by omega,show j≠87 by omega]
theorem QiT (l:List (List Pw)) (m:List Pw) (cs:List Int) (cols:List Tm) (bs:List (List AV)) (hl:l.length≤200) (hlc:cs.length=l.length) (hcs: ∀c∈cs,ZB c=false) (hg: ∀g∈l,okG g) (hm:okG m) (hcl:cols.length < 1000000) (hcm: ∀t∈cols,t.mass < 1000000):
  ∀(post pre:List Tm) (o o1 o2 o3:Bool) (ρ:Nat→AV),cols=pre ++ post→
   ρ 0= .sl o 1 (Q1 l)→ρ 1= .sl o1 5 (Qt m)→ρ 2= .sl o2 1 (Yr cs)→ρ 8= .sl o3 4 (encTs cols)→ρ 9= .int .i64 pre.length→
  R F.tb (.loop F.f392l2) ρ bs (Qh 2 (Qq F.tb F.f392r2 (Qx F.f392 bs)))=some (.bool (post.all fun t=>decide (Zt cs l t=pwT m t)),bs):=by
 intro post
 induction post with
 | nil=>
  intro pre o o1 o2 o3 ρ hk h0 h1 h2 h8 h9;simp only[List.append_nil]at hk;rw[← hk]at h9;rw[Qb F.f392l2.eq_1];simp[h0,h1,h2,h8,h9,F.f392r2]
 | cons t post IH=>
  intro pre o o1 o2 o3 ρ hk h0 h1 h2 h8 h9;have hgt:=Qn hk;have hll:=Qu hk;have hw1:=wr1 pre.length (by omega);have hlt:=Qv hk;have htm:=hcm t (by rw[hk];simp);have h:=fun o o2 o3 ρ c K X=>QiS l cs cols pre.length t bs hl hlc hcs hg hgt htm c K X l [] cs [] o o2 o3 ρ rfl rfl rfl;have h326:=fun o=>GU m t o bs hm.2 htm;have ih:=fun ρ=>IH (pre ++ [t]) o o1 o2 o3 ρ (by rw[hk];simp);simp only[List.all_cons];rw[Qb F.f392l2.eq_1];simp only[Zt]at h;generalize post.all (fun t=>decide (Zt cs l t=pwT m t))=X at *;generalize Zt cs l t=D at *;generalize pwT m t=pt at *;simp[h0,h1,h2,h8,h9,hlt];refine h o o2 o3 _ _ _ _ ?_ ?_ ?_ ?_ ?_ ?_ ?_
  ·simp[h0]
  ·simp[h2]
  ·simp[h8]
  ·simp[h9]
  ·simp
  ·simp
  ·intro ρ' gj g10;have e0:=gj 0 (by omega);have e1:=gj 1 (by omega);have e2:=gj 2 (by omega);have e8:=gj 8 (by omega);have e9:=gj 9 (by omega);simp[h0]at e0;simp[h1]at e1;simp[h2]at e2;simp[h8]at e8;simp[h9]at e9;by_cases c:D=pt
   ·simp[-getElem?_pos,QL,F.f392r0,F.f392r1,g10,e0,e1,e2,e8,e9,hgt,h326,c,hw1];apply ih <;> simp[e0,e1,e2,e8]
   ·simp[-getElem?_pos,QL,F.f392r0,F.f392r1,g10,e0,e1,e2,e8,e9,hgt,h326,c]
theorem QiU (l:List (List Pw)) (m:List Pw) (cs:List Int) (bs:List (List AV)) (hl:l.length≤200) (hlc:cs.length=l.length) (hcs: ∀c∈cs,ZB c=false) (hg: ∀g∈l,okG g) (hm:okG m) (o o1 o2:Bool) (ρ:Nat→AV)
  (h0:ρ 0= .sl o 1 (Q1 l)) (h1:ρ 1= .sl o1 5 (Qt m)) (h2:ρ 2= .sl o2 1 (Yr cs)):
  R F.tb F.f392r3 ρ bs (Qx F.f392 bs)=some (.bool ((Yj (l ++ [m])).all fun t=>decide (Zt cs l t=pwT m t)),bs):=by
 have oka: ∀g∈l ++ [m],okG g:=fun g hg2=>by
  rcases List.mem_append.1 hg2 with h | h
  ·exact hg g h
  ·simp at h;subst h;exact hm
 obtain⟨f1,f2,f3,f4⟩:=Mb (l:=l ++ [m]) (by simp;omega) oka;have c324:=fun o=>Qc2 (l ++ [m]) o bs (by simp;omega) fun g hg=>⟨(oka g hg).2,(oka g hg).len⟩;have h:=fun o o1 o2 o3 ρ=>QiT l m cs (Yj (l ++ [m])) bs hl hlc hcs hg hm f1 f2 (Yj (l ++ [m])) [] o o1 o2 o3 ρ rfl;generalize (Yj (l ++ [m])).all (fun t=>decide (Zt cs l t=pwT m t))=X at *;generalize Yj (l ++ [m])=CC at *;have happ:=Me l [m];have hone:=US m;have e24:l.length*24≤140737488355328:=by omega
 have e25: (l.length+1)*24≤140737488355328:=by omega
 simp[F.f392r3,h0,h1,h2,e24,e25,hone,happ,c324];refine h o o1 o2 false _ ?_ ?_ ?_ ?_ ?_ <;> simp[h0,h1,h2]
theorem QiR (l:List (List Pw)) (m:List Pw) (cs:List Int) (bs:List (List AV)) (hl:l.length≤200) (hlc:cs.length=l.length) (hs: ∀g∈l,SmP g) (hm:okG m):
  ∀(post pre:List (List Pw)) (cpost cpre:List Int) (o o1 o2:Bool) (ρ:Nat→AV),l=pre ++ post→cs=cpre ++ cpost→cpre.length=pre.length→pre.any XK=false→cpre.any ZB=false→
   ρ 0= .sl o 1 (Q1 l)→ρ 1= .sl o1 5 (Qt m)→ρ 2= .sl o2 1 (Yr cs)→ρ 7= .int .i64 pre.length→
  R F.tb (.loop F.f392l0) ρ bs (Qh 0 (Qq F.tb F.f392r3 (Qx F.f392 bs)))=some (.bool (!(post.any XK || cpost.any ZB) && (Yj (l ++ [m])).all fun t=>decide (Zt cs l t=pwT m t)),bs):=by
 intro post
 induction post with
 | nil=>
  intro pre cpost cpre o o1 o2 ρ hk hc hcl2 hb1 hb2 h0 h1 h2 h7;simp only[List.append_nil]at hk;subst hk;have:cpost=[]:=by
   have:=congrArg List.length hc;simp at this;exact List.eq_nil_of_length_eq_zero (by omega)
  subst this;simp only[List.append_nil]at hc;subst hc;have h:=fun ρ=>QiU l m cs bs hl hlc (fun c hc=>by simpa using List.any_eq_false.1 hb2 c hc) (GK hb1 hs) hm o o1 o2 ρ;generalize (Yj (l ++ [m])).all (fun t=>decide (Zt cs l t=pwT m t))=X at *;rw[Qb F.f392l0.eq_1];simp[h0,h1,h2,h7];apply h <;> simp[h0,h1,h2]
 | cons g post IH=>
  intro pre cpost cpre o o1 o2 ρ hk hc hcl2 hb1 hb2 h0 h1 h2 h7;have hgt:=Qn hk;have hll:=Qu hk;have hw1:=wr1 pre.length (by omega);have hlt:=Qv hk;cases cpost with
  | nil=>have:=congrArg List.length hc;simp at this;omega
  | cons ci cpost=>
   have hci:cs[pre.length]? =some ci:=by rw[hc,← hcl2];simp
   have hsg:=hs g (by rw[hk];simp);have c259:=fun o=>RN g o bs (by have:=hsg.1;omega) hsg.big;have ih:=fun ρ b1 b2=>IH (pre ++ [g]) cpost (cpre ++ [ci]) o o1 o2 ρ (by rw[hk];simp) (by rw[hc];simp) (by simp[hcl2]) (by rw[List.any_append,hb1];simpa using b1) (by rw[List.any_append,hb2];simpa using b2);simp only[List.any_cons];rw[Qb F.f392l0.eq_1];generalize (Yj (l ++ [m])).all (fun t=>decide (Zt cs l t=pwT m t))=X at *;generalize post.any XK=P1 at *;generalize cpost.any ZB=P2 at *;by_cases c1:Ze g=0
   ·have eb:XK g=false:=by simp[XK,c1]
    by_cases c2:ci < -35184372088832
    ·have eo:ZB ci=true:=by simp[ZB,c2]
     simp[-getElem?_pos,QL,h0,h1,h2,h7,hlt,hgt,hci,c259,c1,c2,eb,eo]
    ·by_cases c3:35184372088832 < ci
     ·have eo:ZB ci=true:=by simp[ZB,c3]
      simp[-getElem?_pos,QL,h0,h1,h2,h7,hlt,hgt,hci,c259,c1,c2,c3,eb,eo]
     ·have eo:ZB ci=false:=by simp[ZB,c2,c3]
      have ih2:=fun ρ=>ih ρ eb eo;simp[-getElem?_pos,QL,h0,h1,h2,h7,hlt,hgt,hci,c259,c1,c2,c3,eb,eo,hw1];simp only[Bool.not_or]at ih2;apply ih2 <;> simp[h0,h1,h2]
   ·have eb:XK g=true:=by simp[XK,c1]
    simp[-getElem?_pos,QL,h0,h1,h2,h7,hlt,hgt,hci,c259,c1,eb]
theorem G1 (l:List (List Pw)) (m:List Pw) (cs:List Int) (o o2 o3:Bool) (bs:List (List AV)) (hl:l.length < 1000000) (hs: ∀g∈l,SmP g) (hm:SmP m) (hc:cs.length < 1000000):
  call F.tb 392 [.sl o 1 (Q1 l),.sl o2 5 (Qt m),.sl o3 1 (Yr cs)] bs=some (.bool (UL l m cs),bs):=by
 have c259:=fun o=>RN m o bs (by have:=hm.1;omega) hm.big;rw[Qa F.tb_392 _ _ rfl];unfold UL;by_cases k4:Ze m=0
 ·by_cases k2:cs.length=l.length
  ·have k2': (cs.length:Int)=(l.length:Int):=by omega
   by_cases k1:200 < l.length
   ·have k1': (200:Int) < (l.length:Int):=by omega
    simp[F.f392C,k1,k1',k2,k2',k4,c259]
   ·have k1': ¬(200:Int) < (l.length:Int):=by omega
    have h:=fun o o1 o2 ρ=>QiR l m cs bs (by omega) k2 hs ⟨k4,hm⟩ l [] cs [] o o1 o2 ρ rfl rfl rfl rfl rfl;have e: (!(decide (200 < l.length) || !decide (cs.length=l.length) || cs.any ZB || decide (Ze m≠0) || l.any XK))= !(l.any XK || cs.any ZB):=by
     simp only[k1,k2,k4,decide_false,decide_true,Bool.not_true,Bool.or_false,Bool.false_or,ne_eq,not_true_eq_false];rw[Bool.or_comm]
    rw[e];generalize (!(l.any XK || cs.any ZB) && (Yj (l ++ [m])).all fun t=>decide (Zt cs l t=pwT m t))=X at *;simp[F.f392C,k1,k1',k2,k2',k4,c259];refine h false false false _ ?_ ?_ ?_ ?_ <;> simp
  ·have k2': ¬(cs.length:Int)=(l.length:Int):=by omega
   simp[F.f392C,k2,k2',k4,c259]
 ·simp[F.f392C,k4,c259]
def Zd (l:List Pw):List Pw:=l.map fun q=>(q.1,-q.2)
theorem TA (l:List Pw): (Zd l).length=l.length:=by simp[Zd]
theorem QaR (B0:List (List AV)) (l:List Pw) (id:Nat) (t:List AV) (hl:l.length < 1000000) (hn: ∀q∈l,-100000000 < q.2∧q.2 < 100000000) (hid:B0.length≤id):
  ∀(post pre:List Pw) (M:List (List AV)) (ρ:Nat→AV),l=pre ++ post→(B0 ++ M)[id]? =some (QB (Zd pre ++ post)++ t)→
   ρ 3= .gs id 0 5 l.length→ρ 8= .int .i64 l.length→ρ 9= .int .i64 pre.length→
  Id (Zd l) B0 (R F.tb (.loop F.f363l0) ρ (B0 ++ M) (Qh 0 (Qq F.tb F.f363r0 (Qx F.f363 B0)))):=by
 intro post
 induction post with
 | nil=>
  intro pre M ρ hk hb h3 h8 h9;simp only[List.append_nil]at hk hb;subst hk;by_cases c:l.length=0
  ·have:l=[]:=List.eq_nil_of_length_eq_zero c;subst this;refine⟨false,?_⟩;rw[Qb F.f363l0.eq_1];simp at h3;simp[h3,h8,h9,F.f363r0,ZO,Qt,Zd]
  ·refine⟨true,?_⟩;have hle:l.length*5≤(QB (Zd l)++ t).length:=by rw[List.length_append,Yt,TA];omega
   have hch:ZL (QB (Zd l)++ t) 0 5 (Zd l).length=Qt (Zd l):=YX (f:=QT) (k:=5) Xr X1 (Zd l) t;rw[TA]at hch;have hgp:=Pi (Zd l);generalize QB (Zd l)++ t=RR at *;generalize Qt (Zd l)=EE at *;rw[Qb F.f363l0.eq_1];simp[-getElem?_pos,h3,h8,h9,F.f363r0,ZO,c,hb,hle,hch,hgp,YI hid]
 | cons q post IH=>
  intro pre M ρ hk hb h3 h8 h9;have hll:=Qu hk;have hw1:=wr1 pre.length (by omega);have hlt:=Qv hk;have hlt':pre.length < l.length:=by omega
  have hqb:=hn q (by rw[hk];simp);have hwn:IntKind.i64.wrap (-q.2)= -q.2:=QW (by omega) (by omega);have hnl:=TA pre;have hq: (Zd pre ++ q:: post)[pre.length]? =some q:=by rw[List.getElem?_append_right (by omega),hnl];simp
  have hrd:=RW hq t;have hlen: (QB (Zd pre ++ q:: post)++ t).length=l.length*5+t.length:=by rw[List.length_append,Yt,List.length_append,hnl,hll,List.length_cons]
  have hcell: (QB (Zd pre ++ q:: post)++ t)[pre.length*5+4]? =some (.int .i64 q.2):=by
   have h1: (((QB (Zd pre ++ q:: post)++ t).drop (pre.length*5)).take 5)[4]? =some (.int .i64 q.2):=by rw[hrd];simp
   rw[List.getElem?_take_of_lt (by omega),List.getElem?_drop]at h1;exact h1
  have hle:pre.length*5+4+1≤(QB (Zd pre ++ q:: post)++ t).length:=by omega
  have hnew: (QB (Zd pre ++ q:: post)++ t).take (pre.length*5+4)++ (AV.int .i64 (-q.2):: (QB (Zd pre ++ q:: post)++ t).drop (pre.length*5+4+1))=QB (Zd (pre ++ [q])++ post)++ t:=by
   have e:Zd (pre ++ [q])++ post=Zd pre ++ (q.1,-q.2):: post:=by simp[Zd]
   rw[e];have h1:=Tf (f:=QT) (k:=5) Xr (pre:=Zd pre) (q.1,-q.2) (rfl:Zd pre ++ q:: post=Zd pre ++ q:: post) t;rw[hnl]at h1;rw[show QB (Zd pre ++ (q.1,-q.2):: post)++ t=_ from h1.symm];have h2: (QB (Zd pre ++ q:: post)++ t).take (pre.length*5+4)=(QB (Zd pre ++ q:: post)++ t).take (pre.length*5)++ Qc q.1:=by
    rw[List.take_add];congr 1;have: ((QB (Zd pre ++ q:: post)++ t).drop (pre.length*5)).take 4=(((QB (Zd pre ++ q:: post)++ t).drop (pre.length*5)).take 5).take 4:=by rw[List.take_take];rfl
    rw[this];rw[hrd];simp
   rw[h2];simp[QT]
  have hB:=Wk hb;have hgs: ∀x:List AV,(B0 ++ M.set (id - B0.length) x)[id]? =some x:=fun x=>by
   rw[← YI hid,List.getElem?_set,if_pos rfl,if_pos hB]
  have ih:=fun M ρ hb=>IH (pre ++ [q]) M ρ (by rw[hk];simp) hb;generalize QB (Zd (pre ++ [q])++ post)++ t=R2 at *;generalize QB (Zd pre ++ q:: post)++ t=R1 at *;rw[Qb F.f363l0.eq_1];simp[-getElem?_pos,QL,List.getElem?_cons_zero,List.getElem?_cons_succ,h3,h8,h9,hlt,hb,hcell,hle,hwn,hw1,hnew,YI hid];refine ih _ _ (hgs R2) ?_ ?_ ?_ <;> simp[h3,h8]
theorem Qdb (l:List Pw) (o:Bool) (B0:List (List AV)) (hl:l.length < 1000000) (hm: ∀q∈l,q.1.mass < big) (hn: ∀q∈l,-100000000 < q.2∧q.2 < 100000000):Id (Zd l) B0 (call F.tb 363 [.sl o 5 (Qt l)] B0):=by
 obtain⟨v,B,h1,M,id,sz,rfl,rfl,hc⟩:=GQ l false B0 (by omega) hm;rw[Qa F.tb_363 _ _ rfl];rcases hc with⟨rfl,rfl,rfl⟩ | ⟨rfl,hid,t,hb,hne⟩
 ·have e:Qt []=[]:=rfl;rw[e]at h1;refine⟨true,?_⟩;have hN:Zd []=[]:=rfl;simp[F.f363C,h1,e,hN];rw[Qb F.f363l0.eq_1];simp[F.f363r0,ZO]
 ·have h:=fun ρ=>QaR B0 l id t hl hn hid l [] M ρ rfl (by simpa[Zd]using hb);simp[F.f363C,h1];apply h <;> simp
theorem B8 (l:List Pw) (bs:List (List AV)) (hl:l.length < 1000000) (hn: ∀q∈l,-100000000 < q.2∧q.2 < 100000000):
  ∀(post pre:List Pw) (o:Bool) (ρ:Nat→AV),l=pre ++ post→ρ 0= .sl o 5 (Qt l)→ρ 3= .sl true 5 (Qt (Zd pre))→ρ 4= .int .i64 pre.length→
  R F.tb (.loop F.f319l0) ρ bs (Qh 0 (Qq F.tb F.f319r0 (Qx F.f319 bs)))=some (.sl false 5 (Qt (Zd l)),bs):=by
 intro post
 induction post with
 | nil=>
  intro pre o ρ hk h0 h3 h4;simp only[List.append_nil]at hk;subst hk;rw[Qb F.f319l0.eq_1];simp[h0,h3,h4,F.f319r0]
 | cons q post IH=>
  intro pre o ρ hk h0 h3 h4;have hgt:=Qn hk;have hll:=Qu hk;have hw1:=wr1 pre.length (by omega);have hlt:=Qv hk;have hqb:=hn q (by rw[hk];simp);have hwn:IntKind.i64.wrap (-q.2)= -q.2:=QW (by omega) (by omega);have hb: (pre.length+1)*64≤140737488355328:=Pq (by omega);have hnl:=TA pre;have e1:Qc q.1 ++ [AV.int .i64 (-q.2)]=QT (q.1,-q.2):=rfl;have e0: (Qc q.1 ++ [AV.int .i64 0]).drop 5=[]:=by simp[QS]
  have e2:Qt (Zd pre)++ [QT (q.1,-q.2)]=Qt (Zd (pre ++ [q])):=by simp[Qt,Zd]
  have ih:=fun ρ=>IH (pre ++ [q]) o ρ (by rw[hk];simp);rw[Qb F.f319l0.eq_1];simp[-getElem?_pos,QL,List.getElem?_cons_zero,List.getElem?_cons_succ,h0,h3,h4,hlt,hgt,hwn,hw1,hnl,hb,e0,e1,e2,Qf];apply ih <;> simp[h0]
theorem Qc1 (l:List Pw) (o:Bool) (bs:List (List AV)) (hl:l.length < 1000000) (hn: ∀q∈l,-100000000 < q.2∧q.2 < 100000000):call F.tb 319 [.sl o 5 (Qt l)] bs=some (.sl false 5 (Qt (Zd l)),bs):=by
 have h:=fun ρ=>B8 l bs hl hn l [] false ρ rfl;rw[Qa F.tb_319 _ _ rfl];simp[F.f319C];apply h <;> simp[Qt,Zd]
theorem O8 {t:Tm} (h:t.mass < 1000000):SmP (ofP t):=⟨by have:=Ul t;omega,fun q hq=>by have:=Tz t t.mass (Nat.le_refl _) q hq;omega⟩
theorem HI {a b:List Pw} (ha:SmP a) (hb:SmP b):SmP (YG a b):=⟨by have:=NK a b;omega,fun q hq=>by
 have:=Lo (a:=a) (b:=b) (M:=999999) (fun q hq=>by have:=ha.2 q hq;omega) (fun q hq=>by have:=hb.2 q hq;omega) q hq;omega⟩
theorem Qhx {t:Tm} (h:t.mass < 1000000): ∀q∈ofP t,-100000000 < q.2∧q.2 < 100000000:=fun q hq=>by
 unfold ofP at hq;split at hq
 ·have:=(Oy t [] 1 0 (by unfold big;omega) (.inl rfl) NL).bd q hq;have hn:=ZK t;omega
 ·cases hq
theorem NV {a:List Pw} (ha:SmP a):SmP (Zd a):=⟨by rw[TA];exact ha.1,fun q hq=>by
 obtain⟨p,hp,rfl⟩:=List.mem_map.1 hq;exact ha.2 p hp⟩
def Yk (l:List Tm):Bool:=l.all fun t=>decide (ofE t=0)
def Z9 (l:List Tm):List (List Pw):=if Yk l then l.map ofP else []
theorem OD {l:List Tm} (h: ∀t∈l,t.mass < 1000000): ∀g∈Z9 l,SmP g:=fun g hg=>by
 unfold Z9 at hg;split at hg
 ·obtain⟨t,ht,rfl⟩:=List.mem_map.1 hg;exact O8 (h t ht)
 ·cases hg
theorem Pz (l:List Tm): (Z9 l).length≤l.length:=by
 unfold Z9;split <;> simp
def FU (l:List Tm) (bs:List (List AV)) (r:Out):Prop:=∃o,r=some (.tup [.sl o 1 (Q1 (Z9 l)),.bool (Yk l)],bs)
theorem QeH (l:List Tm) (bs:List (List AV)) (hl:l.length < 1000000) (hm: ∀t∈l,t.mass < 1000000):
  ∀(post pre:List Tm) (o:Bool) (ρ:Nat→AV),l=pre ++ post→Yk pre=true→ρ 4= .sl true 1 (Q1 (pre.map ofP))→ρ 9= .sl o 4 (encTs l)→ρ 10= .int .i64 l.length→ρ 11= .int .i64 pre.length→
  FU l bs (R F.tb (.loop F.f366l0) ρ bs (Qh 0 (Qq F.tb F.f366r0 (Qx F.f366 bs)))):=by
 intro post
 induction post with
 | nil=>
  intro pre o ρ hk hp h4 h9 h10 h11;simp only[List.append_nil]at hk;subst hk;have e:Z9 l=l.map ofP:=by simp[Z9,hp]
  refine⟨false,?_⟩;rw[e,hp,Qb F.f366l0.eq_1];simp[h4,h9,h10,h11,F.f366r0]
 | cons t post IH=>
  intro pre o ρ hk hp h4 h9 h10 h11;have hgt:=Qn hk;have hll:=Qu hk;have hw1:=wr1 pre.length (by omega);have hlt:=Qv hk;have htm:=hm t (by rw[hk];simp);have hc:=U9 t bs (by omega);have hb: (pre.length+1)*24≤140737488355328:=by omega
  rw[Qb F.f366l0.eq_1];by_cases c:ofE t=0
  ·have ih:=fun ρ=>IH (pre ++ [t]) o ρ (by rw[hk];simp) (by unfold Yk at hp ⊢;rw[List.all_append,hp];simp[c]);have e1:=US (ofP t);have e2:Q1 (pre.map ofP)++ Q1 [ofP t]=Q1 ((pre ++ [t]).map ofP):=by simp[Q1]
   simp[h4,h9,h10,h11,hlt,hgt,hc,c,hw1,hb,e1,e2];apply ih <;> simp[h9,h10]
  ·have ef:Yk l=false:=by
    unfold Yk;rw[List.all_eq_false];exact⟨t,by rw[hk];simp,by simpa using c⟩
   have e:Z9 l=[]:=by simp[Z9,ef]
   refine⟨false,?_⟩;rw[e,ef];simp[h4,h9,h10,h11,hlt,hgt,hc,c,Q1]
theorem Qdc (l:List Tm) (o:Bool) (bs:List (List AV)) (hl:l.length < 1000000) (hm: ∀t∈l,t.mass < 1000000):FU l bs (call F.tb 366 [.sl o 4 (encTs l)] bs):=by
 have h:=fun ρ=>QeH l bs hl hm l [] false ρ rfl rfl;rw[Qa F.tb_366 _ _ rfl];simp[F.f366C];apply h <;> simp[Q1]
theorem Qbc (l:List Tm) (bs:List (List AV)) (hl:l.length < 1000000) (hm: ∀t∈l,t.mass < 1000000):
  ∀(post pre:List Tm) (o:Bool) (ρ:Nat→AV),l=pre ++ post→Yk pre=true→ρ 4= .sl true 1 (Q1 (pre.map ofP))→ρ 0= .sl o 4 (encTs l)→ρ 5= .int .i64 pre.length→
  FU l bs (R F.tb (.loop F.f391l0) ρ bs (Qh 0 (Qq F.tb F.f391r0 (Qx F.f391 bs)))):=by
 intro post
 induction post with
 | nil=>
  intro pre o ρ hk hp h4 h0 h5;simp only[List.append_nil]at hk;subst hk;have e:Z9 l=l.map ofP:=by simp[Z9,hp]
  refine⟨false,?_⟩;rw[e,hp,Qb F.f391l0.eq_1];simp[h4,h0,h5,F.f391r0]
 | cons t post IH=>
  intro pre o ρ hk hp h4 h0 h5;have hgt:=Qn hk;have hll:=Qu hk;have hw1:=wr1 pre.length (by omega);have hlt:=Qv hk;have htm:=hm t (by rw[hk];simp);have hc:=Ta t bs (by omega);have hb: (pre.length+1)*24≤140737488355328:=by omega
  rw[Qb F.f391l0.eq_1];by_cases c:ofE t=0
  ·have ih:=fun ρ=>IH (pre ++ [t]) o ρ (by rw[hk];simp) (by unfold Yk at hp ⊢;rw[List.all_append,hp];simp[c]);have e1:=US (ofP t);have e2:Q1 (pre.map ofP)++ Q1 [ofP t]=Q1 ((pre ++ [t]).map ofP):=by simp[Q1]
   simp[h4,h0,h5,hlt,hgt,hc,c,hw1,hb,e1,e2];apply ih <;> simp[h0]
  ·have ef:Yk l=false:=by
    unfold Yk;rw[List.all_eq_false];exact⟨t,by rw[hk];simp,by simpa using c⟩
   have e:Z9 l=[]:=by simp[Z9,ef]
   refine⟨false,?_⟩;rw[e,ef];simp[h4,h0,h5,hlt,hgt,hc,c,Q1]
theorem G0 (l:List Tm) (o:Bool) (bs:List (List AV)) (hl:l.length < 1000000) (hm: ∀t∈l,t.mass < 1000000):FU l bs (call F.tb 391 [.sl o 4 (encTs l)] bs):=by
 have h:=fun ρ=>Qbc l bs hl hm l [] false ρ rfl rfl;rw[Qa F.tb_391 _ _ rfl];simp[F.f391C];apply h <;> simp[Q1]
def Vr (t:Tm):Bool:=isB t EXP && decide (t.kids.length=2)
def XQ (t:Tm):Tm:=if Vr t then kid t 0 else t
def Z3 (t:Tm):List Pw:=if Vr t then ofP (kid t 1)else []
theorem UF {t:Tm} (h:t.kids.length=2):t.kids=[kid t 0,kid t 1]:=by
 cases hk:t.kids with
 | nil=>rw[hk]at h;simp at h
 | cons a r=>cases r with
  | nil=>rw[hk]at h;simp at h
  | cons b r2=>cases r2 with
   | nil=>simp[kid,hk]
   | cons c r3=>rw[hk]at h;simp at h
theorem UQ (t:Tm): (XQ t).mass≤t.mass:=by
 unfold XQ;split
 ·exact WZ t 0
 ·exact Nat.le_refl _
theorem VR {t:Tm} (h:t.mass < 1000000):SmP (Z3 t)∧∀q∈Z3 t,-100000000 < q.2∧q.2 < 100000000:=by
 unfold Z3;split
 ·have:=WZ t 1;exact⟨O8 (by omega),Qhx (by omega)⟩
 ·exact⟨⟨by simp,fun q h=>by cases h⟩,fun q h=>by cases h⟩
def Qe4 (t:Tm) (bs:List (List AV)) (r:Out):Prop:=∃o,r=some (.tup [.agg (Qc (XQ t)),.sl o 5 (Qt (Z3 t))],bs)
theorem GX (t:Tm) (bs:List (List AV)) (hm:t.mass < 1000000):Qe4 t bs (call F.tb 362 [.agg (Qc t)] bs):=by
 have h1:=GW t EXP bs;have e1:=QS t;rw[Qa F.tb_362 _ _ rfl];unfold EXP at h1;simp only[isN]at h1;cases c:isB t [101,120,112]
 ·have eb:Vr t=false:=by simp[Vr,EXP,c]
  rw[c]at h1;refine⟨false,?_⟩;simp[F.f362C,h1,XQ,Z3,eb,Qt,Qf]
 ·rw[c]at h1;by_cases c2:t.kids.length=2
  ·have eb:Vr t=true:=by simp[Vr,EXP,c,c2]
   have hk:=UF c2;have km:=WZ t 1;have h2:=U9 (kid t 1) bs (by omega);refine⟨false,?_⟩;have e2:encTs t.kids=[Qc (kid t 0),Qc (kid t 1)]:=by rw[hk];simp[encTs]
   rw[e2]at e1;simp only[e1]at h1 ⊢;simp[F.f362C,h1,h2,XQ,Z3,eb,Qf]
  ·have eb:Vr t=false:=by simp[Vr,c2]
   have c2': ¬(t.kids.length:Int)=2:=by omega
   refine⟨false,?_⟩;simp only[XQ,Z3,eb];simp only[e1]at h1 ⊢;simp[F.f362C,h1,c2',Qt];exact e1.symm
theorem GT (t:Tm) (bs:List (List AV)) (hm:t.mass < 1000000) (ha:isB t EXP=true→t.kids.length=2):Qe4 t bs (call F.tb 318 [.agg (Qc t)] bs):=by
 have h1:=Tq t EXP bs;have e1:=QS t;rw[Qa F.tb_318 _ _ rfl];cases c:isB t EXP
 ·have eb:Vr t=false:=by simp[Vr,c]
  rw[c]at h1;unfold EXP at h1;refine⟨false,?_⟩;simp[F.f318C,h1,XQ,Z3,eb,Qt,Qf]
 ·have c2:=ha c;have eb:Vr t=true:=by simp[Vr,c,c2]
  rw[c]at h1;unfold EXP at h1;have hk:=UF c2;have km:=WZ t 1;have h2:=Ta (kid t 1) bs (by omega);refine⟨false,?_⟩;have e2:encTs t.kids=[Qc (kid t 0),Qc (kid t 1)]:=by rw[hk];simp[encTs]
  rw[e2]at e1;simp only[e1]at h1 ⊢;simp[F.f318C,h1,h2,XQ,Z3,eb,Qf]
def O5 (u a:Tm):Bool:=decide (Qm (XQ u) (XQ a)=0) && decide (Xt (Z3 u) (Zd (Z3 a))=0)
def Lq (u a:Tm):List Pw:=YG (Z3 u) (Zd (Z3 a))
def QgG (u a:Tm) (bs:List (List AV)) (r:Out):Prop:=∃o x,r=some (.tup [.sl o 5 x,.bool (O5 u a)],bs)∧(O5 u a=true→x=Qt (Lq u a))
theorem Qc3 (u a:Tm) (bs:List (List AV)) (hu:u.mass < 1000000) (ha:a.mass < 1000000) (h1:isB u EXP=true→u.kids.length=2) (h2:isB a EXP=true→a.kids.length=2):
  QgG u a bs (call F.tb 340 [.agg (Qc u),.agg (Qc a)] bs):=by
 obtain⟨o1,b1⟩:=GT u bs hu h1;obtain⟨o2,b2⟩:=GT a bs ha h2;obtain⟨su,_⟩:=VR hu;obtain⟨sa,na⟩:=VR ha;have sn:=NV sa;have h3:=fun o=>Qc1 (Z3 a) o bs sa.1 na;have h4:=fun o o2=>GS (Z3 u) (Zd (Z3 a)) o o2 bs (by have:=su.1;omega) (by have:=sn.1;omega) su.big sn.big;have mu:=UQ u;have ma:=UQ a;have h5:=Yi (XQ u) (XQ a) bs (by unfold big;omega) (by unfold big;omega);rw[Qa F.tb_340 _ _ rfl];unfold QgG O5 Lq;by_cases c:Qm (XQ u) (XQ a)=0
 ·by_cases c2:Xt (Z3 u) (Zd (Z3 a))=0
  ·refine⟨false,Qt (YG (Z3 u) (Zd (Z3 a))),?_,fun _=>rfl⟩;simp[F.f340C,b1,b2,h3,h4,h5,c,c2,Qf]
  ·refine⟨false,Qt (YG (Z3 u) (Zd (Z3 a))),?_,fun _=>rfl⟩;simp[F.f340C,b1,b2,h3,h4,h5,c,c2,Qf]
 ·refine⟨false,[],?_,fun h=>by simp[c]at h⟩;simp[F.f340C,b1,b2,h3,h4,h5,c,Qf]
end Go.Am
