/-
  Sc12, Sc13, Sc14, Sc15, Sc16.
-/
import Derived.Test.YtpgbndmkiiakaaaGreatDoorG24
set_option linter.unusedVariables false
set_option linter.unusedSimpArgs false
namespace Go.Am
set_option maxRecDepth 8000
theorem Qgn (f:Fr) (hf:FOk f) (hM:massL f.t < 1000000) (hv:Za f=0) (bs:List (List AV)):call F.tb 408 [.agg (Qq f)] bs=some (.sl false 4 (encTs (Zt f)),bs):=by
 have h:=QfA f hf hM bs
 have hg:MI f=f.t ++ Zt f:=by simp[MI,hv]
 have hte:Qq f=[.sl false 4 (encTs f.s),.sl false 4 (encTs f.t)]:=rfl
 rw[hg,hv,hte]at h
 have hlt: ¬((f.t.length:Int)+ ((Zt f).length:Int) < (f.t.length:Int)):=by omega
 have e: ((encTs (f.t ++ Zt f)).take (f.t.length+ (Zt f).length)).drop f.t.length=encTs (Zt f):=by rw[Th,Tg,← List.length_append,List.take_length,List.drop_left]
 rw[Qb F.tb_408 _ _ rfl,hte]
 simp[F.f408B,F.f408C,F.f408R,F.f408K,h,hlt,e]
def Vs (os:List Nat):List AV:=os.map fun j:Nat=> .agg [.int .i64 (j:Int),.bool true]
theorem Nj: ∀(os:List Nat) (i:Nat),WX false (Vs os) (.int .i64 i)=some (if os.contains i then some (.bool true)else none)
 | [],i=>rfl
 | j:: os,i=>by
  have ih:=Nj os i
  unfold Vs at ih ⊢
  simp only[List.map_cons,WX,SN,if_true]
  by_cases c:i=j
  ·subst c;simp
  ·have c': ((i:Int) == (j:Int))=false:=by simp;omega
   have c2: (j:: os).contains i=os.contains i:=by simp[c]
   rw[c',c2]
   exact ih
theorem Gz: ∀(os:List Nat) (i:Nat),os.contains i=false→UH false (Vs os) (.int .i64 i) (.bool true)=some (Vs (os ++ [i]))
 | [],i,_=>rfl
 | j:: os,i,h=>by
  have c: ¬i=j:=fun e=>by subst e;simp at h
  have h2:os.contains i=false:=by simpa[c]using h
  have ih:=Gz os i h2
  unfold Vs at ih ⊢
  have c': ((i:Int) == (j:Int))=false:=by simp;omega
  simp only[List.map_cons,List.cons_append,UH,SN,if_true,c',ih,Option.map_some]
def EB (bs:List (List AV)) (f:Fr) (os:List Nat):List (List AV):=bs ++ [Qq f,.undef:: Vs os]
theorem QlJ (bs:List (List AV)) (f:Fr) (os:List Nat): (EB bs f os)[bs.length]? =some (Qq f):=by simp[EB]
theorem QlK (bs:List (List AV)) (f:Fr) (os:List Nat): (EB bs f os)[bs.length+1]? =some (.undef:: Vs os):=by simp[EB]
theorem Qia (bs:List (List AV)) (f:Fr) (os os':List Nat): (EB bs f os).set (bs.length+1) (.undef:: Vs os')=EB bs f os':=by simp[EB]
theorem Eh (bs:List (List AV)) (f:Fr) (os:List Nat): (EB bs f os).take bs.length=bs:=by simp[EB]
theorem Qh9 (bs:List (List AV)) (f:Fr):bs ++ [Qq f,[.undef]]=EB bs f []:=rfl
def Ue (r:Option (List Rp)) (g:Nat):AV:=match r with
 | some l=> .tup [.sl false 8 (Qr l),.int .i64 g,.int .i64 0]
 | none=> .tup [.sl false 8 [],.int .i64 0,.int .i64 3]
theorem SW {l:List Rp} {os:List Nat} {x:Rp} {post:List Rp} {i:Nat} (h:os.contains i=true∨Zd l x=[]):Wf l os (x:: post) i=Wf l os post (i+1):=by
 have e:Wf l os (x:: post) i=if os.contains i || (Zd l x).isEmpty then Wf l os post (i+1)else some (i,Zd l x):=rfl
 rw[e]
 rcases h with h | h
 ·rw[h];simp
 ·rw[h];simp
theorem JL {l:List Rp} {os:List Nat} {x:Rp} {post:List Rp} {i:Nat} (h:os.contains i=false) (h2:Zd l x≠[]):Wf l os (x:: post) i=some (i,Zd l x):=by
 have e:Wf l os (x:: post) i=if os.contains i || (Zd l x).isEmpty then Wf l os post (i+1)else some (i,Zd l x):=rfl
 rw[e,h]
 cases ho:Zd l x with
 | nil=>exact absurd ho h2
 | cons=>simp
theorem Sm {n:Nat} (h:n≤1000000):n*112≤140737488355328:=by omega
theorem QjV (f:Fr) (hf:FOk f) (hM:massL f.t < 1000000) (bs:List (List AV)) (g:Nat):
  ∀(n:Nat) (l:List Rp) (os:List Nat),Ut l os n→∀(post pre:List Rp) (ρ:Nat→AV),l=pre ++ post→Wf l os l 0=Wf l os post pre.length→
   ρ 1= .gp bs.length 0→ρ 5= .sl true 8 (Qr l)→ρ 10= .int .i64 g→ρ 11= .mp (bs.length+1)→ρ 12= .int .i64 pre.length→
  R F.tb (.loop F.f414l2) ρ (EB bs f os) (Qk 4 (Qv F.tb F.f414r0 (Qx F.f414 bs)))=some (Ue (XU f n l os) g,bs):=by
 intro n
 induction n with
 | zero=>intro l os h;exact absurd h.fuel (by omega)
 | succ n IHn=>
  intro l os hI post
  have hR:=VL hI
  have hlen:=hR.1
  induction post with
  | nil=>
   intro pre ρ hk hs h1 h5 h10 h11 h12
   simp only[List.append_nil]at hk
   rw[← hk]at h12
   have he:XU f (n+1) l os=some l:=by unfold XU;rw[hs];rfl
   rw[Qc F.f414l2.eq_1,he]
   simp[h1,h5,h10,h11,h12,QI,U1,Eh,Ue,F.f414r0,F.f414R,F.f414K]
  | cons x post IH=>
   intro pre ρ hk hs h1 h5 h10 h11 h12
   have hgt:=Z9 (Qp hk)
   have hll:l.length=pre.length+ (post.length+1):=by rw[hk];simp
   have hw1:IntKind.i64.wrap ((pre.length:Int)+1)=(pre.length:Int)+1:=Ql (by omega) (by omega)
   have hw0:IntKind.i64.wrap 0=0:=rfl
   have hlt: (pre.length:Int) < (l.length:Int):=by omega
   have hem:=QlK bs f os
   have hef:=QlJ bs f os
   have hlen2:=hI.len
   obtain⟨hv,hb⟩:=hI.ok x (by rw[hk];simp)
   have hc:=fun o=>Qgq l hR x hv o (EB bs f os)
   obtain⟨o1,o2,o3⟩:=K2 hR hv hb
   have es: (QR x).map AV.strip=QR x:=rfl
   have el: (QR x).length=8:=rfl
   have et: (QR x).take 8=QR x:=rfl
   have ih:=fun hs ρ=>IH (pre ++ [x]) ρ (by rw[hk];simp) hs
   rw[Qc F.f414l2.eq_1]
   cases c1:os.contains pre.length
   ·have hfm:WX false (Vs os) (.int .i64 (pre.length:Int))=some none:=by rw[Nj,c1];rfl
    by_cases c2:Zd l x=[]
    ·have ih2:=ih (by rw[hs,SW (.inr c2)];simp)
     rw[c2]at hc
     have hnil:Qr []=[]:=rfl
     rw[hnil]at hc
     simp[-getElem?_pos,h1,h5,h10,h11,h12,QI,hlt,hgt,hw1,hem,hfm,hc,es,el,et]
     apply ih2 <;> simp[h1,h5,h10,h11]
    ·have hsc:=JL (post:=post) c1 c2
     have hL:=fun o=>Qgw f hf hM (Zd l x) (by omega) (fun y hy=>by have:=(o1 y hy).2;unfold big;omega) bs.length o (EB bs f os) hef
     have hne: ¬((Zd l x).length:Int)=0:=by
      have:=List.length_pos_iff.2 c2
      omega
     have hu:=Gz os pre.length c1
     have hset:=Qia bs f os (os ++ [pre.length])
     cases c3:U5 f (Zd l x)
     ·rw[c3]at hL
      have he:XU f (n+1) l os=XU f n (l ++ Zd l x) (os ++ [pre.length]):=by
       conv=>lhs;unfold XU
       rw[hs,hsc];simp[c3]
      have hb2: (l.length+ (Zd l x).length)*112≤140737488355328:=Sm (by omega)
      have hi:=IHn (l ++ Zd l x) (os ++ [pre.length]) (Nf hI hk c1 c3) (l ++ Zd l x) []
      rw[he]
      have hi2:=fun ρ=>hi ρ rfl rfl
      generalize hmm:Zd l x=more at *
      simp[-getElem?_pos,h1,h5,h10,h11,h12,QI,hlt,hgt,hw0,hem,hfm,hc,es,el,et,c2,hL,hu,hset,hb2,Lr]
      apply hi2 <;> simp[h1,h10,h11]
     ·rw[c3]at hL
      have he:XU f (n+1) l os=none:=by
       unfold XU
       rw[hs,hsc];simp[c3]
      rw[he]
      generalize hmm:Zd l x=more at *
      simp[-getElem?_pos,h1,h5,h10,h11,h12,QI,hlt,hgt,hem,hfm,hc,es,el,et,c2,hL,Eh,Ue,F.f414R,F.f414K]
   ·have hfm:WX false (Vs os) (.int .i64 (pre.length:Int))=some (some (.bool true)):=by rw[Nj,c1];rfl
    have ih2:=ih (by rw[hs,SW (.inl c1)];simp)
    simp[-getElem?_pos,h1,h5,h10,h11,h12,QI,hlt,hgt,hw1,hem,hfm]
    apply ih2 <;> simp[h1,h5,h10,h11]
theorem QjW (f:Fr) (hf:FOk f) (hM:massL f.t < 1000000) (hv:Za f=0) (bs:List (List AV)) (ρ:Nat→AV) (h1:ρ 1= .gp bs.length 0) (h5:ρ 5= .sl true 8 (Qr (ZN f))):
  R F.tb F.f414r1 ρ (bs ++ [Qq f]) (Qx F.f414 bs)=some (Ue (Wt f) (ZN f).length,bs):=by
 obtain⟨hI,_⟩:=PV hv
 have h2:=fun ρ=>QjV f hf hM bs (ZN f).length 40000 (ZN f) [] hI (ZN f) [] ρ rfl rfl
 have e:=Qh9 bs f
 unfold Wt
 generalize XU f 40000 (ZN f) []=X at *
 simp[F.f414r1,h1,h5,e,QI]
 apply h2 <;> simp[h1,h5]
theorem QjU (f:Fr) (hf:FOk f) (hM:massL f.t < 1000000) (hv:Za f=0) (bs:List (List AV)):
  ∀(post pre:List Tm) (ρ:Nat→AV),Zt f=pre ++ post→ρ 1= .gp bs.length 0→ρ 5= .sl true 8 (Qr (Z7 0 f.t ++ pre.map fun a=>⟨a,a⟩))→ρ 33= .sl false 4 (encTs (Zt f))→ρ 34= .int .i64 (Zt f).length→ρ 35= .int .i64 pre.length→
  R F.tb (.loop F.f414l1) ρ (bs ++ [Qq f]) (Qk 2 (Qv F.tb F.f414r1 (Qx F.f414 bs)))=some (Ue (Wt f) (ZN f).length,bs):=by
 obtain⟨hI,hl0⟩:=PV hv
 have hlen:=hI.len
 intro post
 induction post with
 | nil=>
  intro pre ρ hk h1 h5 h33 h34 h35
  simp only[List.append_nil]at hk
  rw[← hk]at h35 h5
  have h2:=fun ρ=>QjW f hf hM hv bs ρ
  rw[Qc F.f414l1.eq_1]
  simp[h1,h33,h34,h35]
  apply h2 <;> simp[h1,h5,ZN]
 | cons x post IH=>
  intro pre ρ hk h1 h5 h33 h34 h35
  have hg:=Qp hk
  have hll: (Zt f).length=pre.length+ (post.length+1):=by rw[hk];simp
  have hw1:IntKind.i64.wrap ((pre.length:Int)+1)=(pre.length:Int)+1:=Ql (by omega) (by omega)
  have hlt: (pre.length:Int) < ((Zt f).length:Int):=by omega
  have ih:=fun ρ=>IH (pre ++ [x]) ρ (by rw[hk];simp)
  have hb2: ((Z7 0 f.t ++ pre.map fun a=>(⟨a,a⟩:Rp)).length+1)*112≤140737488355328:=Sm (by simp only[List.length_append,List.length_map,UB];omega)
  have e1:=Qj x
  have ea:Qr (Z7 0 f.t ++ (pre ++ [x]).map fun a=>(⟨a,a⟩:Rp))=Qr (Z7 0 f.t ++ pre.map fun a=>(⟨a,a⟩:Rp))++ [QR ⟨x,x⟩]:=by simp[Qr]
  have er:QR ⟨x,x⟩=[.int .i64 x.kind,.str x.name,.int .i64 x.sort,.sl false 4 (encTs x.kids),.int .i64 x.kind,.str x.name,.int .i64 x.sort,.sl false 4 (encTs x.kids)]:=rfl
  rw[er]at ea
  simp only[ea]at ih
  generalize (Z7 0 f.t ++ pre.map fun a=>(⟨a,a⟩:Rp))=L at *
  rw[Qc F.f414l1.eq_1]
  simp[h1,h5,h33,h34,h35,hg,hlt,hw1,e1,QI,hb2]
  apply ih <;> simp[h1,h33,h34]
theorem QjT (f:Fr) (hf:FOk f) (hM:massL f.t < 1000000) (hv:Za f=0) (bs:List (List AV)):
  ∀(post pre:List Tm) (ρ:Nat→AV),f.t=pre ++ post→ρ 1= .gp bs.length 0→ρ 5= .sl true 8 (Qr (Z7 0 pre))→ρ 15= .sl false 4 (encTs f.t)→ρ 16= .int .i64 f.t.length→ρ 17= .int .i64 pre.length→
  R F.tb (.loop F.f414l0) ρ (bs ++ [Qq f]) (Qk 0 (Qv F.tb F.f414r2 (Qx F.f414 bs)))=some (Ue (Wt f) (ZN f).length,bs):=by
 have hle:=OE hv
 have happ: ∀(l:List Tm) (x:Tm) (i:Nat),Z7 i (l ++ [x])=Z7 i l ++ [⟨x,Xe (i+l.length)⟩]:=by
  intro l x
  induction l with
  | nil=>intro i;rfl
  | cons y l ih=>intro i;simp only[List.cons_append,Z7,ih (i+1),List.length_cons];rw[show i+1+l.length=i+ (l.length+1) by omega]
 intro post
 induction post with
 | nil=>
  intro pre ρ hk h1 h5 h15 h16 h17
  simp only[List.append_nil]at hk
  rw[← hk]at h17 h5
  have h2:=fun ρ=>QjU f hf hM hv bs (Zt f) [] ρ rfl
  have hc:=Qgn f hf hM hv (bs ++ [Qq f])
  have hte:Qq f=[.sl false 4 (encTs f.s),.sl false 4 (encTs f.t)]:=rfl
  have hgf: (bs ++ [Qq f])[bs.length]? =some (Qq f):=by simp
  rw[hte]at hc hgf h2 ⊢
  rw[Qc F.f414l0.eq_1]
  simp[-getElem?_pos,h1,h15,h16,h17,F.f414r2,hc,hgf]
  apply h2 <;> simp[h1,h5]
 | cons x post IH=>
  intro pre ρ hk h1 h5 h15 h16 h17
  have hg:=Qp hk
  have hll:f.t.length=pre.length+ (post.length+1):=by rw[hk];simp
  have hw1:IntKind.i64.wrap ((pre.length:Int)+1)=(pre.length:Int)+1:=Ql (by omega) (by omega)
  have hlt: (pre.length:Int) < (f.t.length:Int):=by omega
  have ih:=fun ρ=>IH (pre ++ [x]) ρ (by rw[hk];simp)
  have hb2: ((Z7 0 pre).length+1)*112≤140737488355328:=Sm (by rw[UB];omega)
  have e1:=Qj x
  have hit:=Jc pre.length (bs ++ [Qq f]) (by omega)
  have hdl:=Uc 9 pre.length (by omega)
  have hdb:1+ (Xr pre.length).length≤9223372036854775807:=by omega
  have ea:Qr (Z7 0 (pre ++ [x]))=Qr (Z7 0 pre)++ [[.int .i64 x.kind,.str x.name,.int .i64 x.sort,.sl false 4 (encTs x.kids),.int .i64 1,.str (119:: Xr pre.length),.int .i64 0,.sl false 4 []]]:=by
   rw[happ];simp[Qr,QR,Xe,encTs]
  rw[ea]at ih
  generalize Z7 0 pre=L at *
  rw[Qc F.f414l0.eq_1]
  simp[h1,h5,h15,h16,h17,hg,hlt,hw1,e1,QI,hb2,hit,hdb]
  apply ih <;> simp[h1,h15,h16]
theorem Dj (f:Fr) (hf:FOk f) (hM:massL f.t < 1000000) (hv:Za f=0) (bs:List (List AV)):call F.tb 414 [.agg (Qq f)] bs=some (Ue (Wt f) (ZN f).length,bs):=by
 have h:=fun ρ=>QjT f hf hM hv bs f.t [] ρ rfl
 have hte:Qq f=[.sl false 4 (encTs f.s),.sl false 4 (encTs f.t)]:=rfl
 rw[Qb F.tb_414 _ _ rfl]
 rw[hte]at h ⊢
 simp[F.f414B,F.f414C]
 apply h <;> simp[Z7,Qr]
end Go.Am
namespace Go.Am
set_option maxRecDepth 8000
def flg (n:Nat) (os:List Nat):List AV:=(List.range n).map fun i=> .bool (os.contains i)
theorem XY (n:Nat) (os:List Nat): (flg n os).length=n:=by simp[flg]
theorem UA {n i:Nat} (os:List Nat) (h:i < n): (flg n os)[i]? =some (.bool (os.contains i)):=by simp[flg,h]
theorem Qhg {n i:Nat} (os:List Nat) (h:i < n): (flg n os).take i ++ .bool true:: (flg n os).drop (i+1)=flg n (os ++ [i]):=by
 apply List.ext_getElem?
 intro j
 by_cases hj:j < n
 ·rw[UA _ hj]
  have hlt: ((flg n os).take i).length=i:=by simp[XY];omega
  rcases Nat.lt_trichotomy j i with c | c | c
  ·rw[List.getElem?_append_left (by omega),List.getElem?_take,if_pos c,UA _ hj]
   have: ¬j=i:=by omega
   simp[this]
  ·subst c
   rw[List.getElem?_append_right (by omega),hlt]
   simp
  ·rw[List.getElem?_append_right (by omega),hlt]
   obtain⟨k,rfl⟩: ∃k,j=i+1+k:=⟨j - i - 1,by omega⟩
   rw[show i+1+k - i=k+1 by omega,List.getElem?_cons_succ,List.getElem?_drop,UA _ hj]
   have: ¬i+1+k=i:=by omega
   simp[this]
 ·have h1: (flg n (os ++ [i])).length≤j:=by rw[XY];omega
  rw[List.getElem?_eq_none h1,List.getElem?_eq_none]
  simp[XY];omega
theorem DG {n k:Nat} {os:List Nat} (h: ∀i∈os,i < n):flg n os ++ List.replicate k (.bool false)=flg (n+k) os:=by
 apply List.ext_getElem?
 intro j
 by_cases c:j < n
 ·rw[List.getElem?_append_left (by rw[XY];exact c),UA _ c,UA _ (by omega)]
 ·rw[List.getElem?_append_right (by rw[XY];omega),XY]
  by_cases c2:j < n+k
  ·rw[UA _ c2,List.getElem?_replicate,if_pos (by omega)]
   have:os.contains j=false:=by simpa using fun hj=>c (h j hj)
   rw[this]
  ·rw[List.getElem?_replicate,if_neg (by omega),List.getElem?_eq_none (by rw[XY];omega)]
def FB (bs B:List (List AV)) (id n:Nat) (os:List Nat):Prop:=B.take bs.length=bs∧bs.length≤id∧B[id]? =some (flg n os)
theorem Qkn {bs B:List (List AV)} {id n i:Nat} {os:List Nat} (h:FB bs B id n os):FB bs (B.set id (flg n (os ++ [i]))) id n (os ++ [i]):=by
 obtain⟨h1,h2,h3⟩:=h
 have hl:=(List.getElem?_eq_some_iff.1 h3).1
 refine⟨?_,h2,by rw[List.getElem?_set_self hl]⟩
 rw[List.take_set_of_le h2];exact h1
theorem Qkm {bs B:List (List AV)} {id n:Nat} {os:List Nat} (h:FB bs B id n os) (hn:0 < n) (k:Nat) (hk:0 < k) (hb:n+k≤1000000) (hos: ∀i∈os,i < n):
  ∃B2,O1 1 1 (.gs id 0 1 n) (k,List.replicate k (.bool false)) B=some (.gs B.length 0 1 (n+k),B2)∧FB bs B2 B.length (n+k) os:=by
 obtain⟨h1,h2,h3⟩:=h
 have hl:=(List.getElem?_eq_some_iff.1 h3).1
 have hst: (flg n os).map AV.strip=flg n os:=by
  simp only[flg,List.map_map]
  rfl
 refine⟨B.set id []++ [flg (n+k) os],?_,?_,?_,?_⟩
 ·have hne:flg n os≠[]:=fun e=>by have:=XY n os;rw[e]at this;simp at this;omega
  have c1: ¬k=0:=by omega
  have c2: (n+k)*1≤140737488355328:=by omega
  have c3: ¬(n+k)*1≤(flg n os).length:=by rw[XY];omega
  have c4:n*1≤(flg n os).length:=by rw[XY];omega
  have et: (flg n os).take (n*1)=flg n os:=by rw[List.take_of_length_le];rw[XY];omega
  simp only[O1]
  rw[if_pos ⟨by omega,c2⟩,if_neg c1,if_neg (by omega),if_pos ⟨trivial,trivial⟩,h3]
  simp only[Option.bind_some]
  rw[if_pos ⟨hne,c4⟩,if_neg c3,et,hst,DG hos]
 ·rw[List.take_append_of_le_length (by rw[List.length_set];omega),List.take_set_of_le h2];exact h1
 ·have:=congrArg List.length h1
  simp at this;omega
 ·rw[List.getElem?_append_right (by rw[List.length_set];exact Nat.le_refl _),List.length_set];simp
def Ud (r:Option (List Rp)) (g:Nat):AV:=match r with
 | some l=> .tup [.sl false 8 (Qr l),.int .i64 g,.bool true]
 | none=> .tup [.sl false 8 [],.int .i64 0,.bool false]
theorem QgS (f:Fr) (hf:FOk f) (hM:massL f.t < 1000000) (bs:List (List AV)) (g:Nat):
  ∀(n:Nat) (l:List Rp) (os:List Nat),Ut l os n→∀(post pre:List Rp) (B:List (List AV)) (id:Nat) (ρ:Nat→AV),l=pre ++ post→Wf l os l 0=Wf l os post pre.length→FB bs B id l.length os→
   ρ 1= .bx (Qq f)→ρ 5= .sl true 8 (Qr l)→ρ 9= .int .i64 g→ρ 10= .gs id 0 1 l.length→ρ 11= .int .i64 pre.length→
  R F.tb (.loop F.f450l2) ρ B (Qk 4 (Qv F.tb F.f450r0 (Qx F.f450 bs)))=some (Ud (XU f n l os) g,bs):=by
 intro n
 induction n with
 | zero=>intro l os h;exact absurd h.fuel (by omega)
 | succ n IHn=>
  intro l os hI post
  have hR:=VL hI
  have hlen:=hR.1
  have hlen2:=hI.len
  induction post with
  | nil=>
   intro pre B id ρ hk hs hB h1 h5 h9 h10 h11
   simp only[List.append_nil]at hk
   rw[← hk]at h11
   have he:XU f (n+1) l os=some l:=by unfold XU;rw[hs];rfl
   have hBt:=hB.1
   rw[Qc F.f450l2.eq_1,he]
   simp[h1,h5,h9,h10,h11,QI,U1,hBt,Ud,F.f450r0,F.f450R,F.f450K]
  | cons x post IH=>
   intro pre B id ρ hk hs hB h1 h5 h9 h10 h11
   have hgt:=Z9 (Qp hk)
   have hll:l.length=pre.length+ (post.length+1):=by rw[hk];simp
   have hw1:IntKind.i64.wrap ((pre.length:Int)+1)=(pre.length:Int)+1:=Ql (by omega) (by omega)
   have hw0:IntKind.i64.wrap 0=0:=rfl
   have hlt: (pre.length:Int) < (l.length:Int):=by omega
   have hltn:pre.length < l.length:=by omega
   have hltn1:pre.length+1≤l.length:=by omega
   obtain⟨hBt,hid,hBg⟩:=hB
   have hfl:=XY l.length os
   have hfg:=UA os hltn
   obtain⟨hv,hb⟩:=hI.ok x (by rw[hk];simp)
   have hc:=fun o=>QgD l hR x hv o B
   obtain⟨o1,o2,o3⟩:=K2 hR hv hb
   have es: (QR x).map AV.strip=QR x:=rfl
   have el: (QR x).length=8:=rfl
   have et: (QR x).take 8=QR x:=rfl
   have ih:=fun hs ρ=>IH (pre ++ [x]) B id ρ (by rw[hk];simp) hs ⟨hBt,hid,hBg⟩
   have hte:Qq f=[.sl false 4 (encTs f.s),.sl false 4 (encTs f.t)]:=rfl
   rw[Qc F.f450l2.eq_1]
   cases c1:os.contains pre.length
   ·rw[c1]at hfg
    by_cases c2:Zd l x=[]
    ·have ih2:=ih (by rw[hs,SW (.inr c2)];simp)
     rw[c2]at hc
     have hnil:Qr []=[]:=rfl
     rw[hnil]at hc
     simp[-getElem?_pos,Yi,List.getElem?_cons_succ,h1,h5,h9,h10,h11,QI,hlt,hgt,hw1,hBg,hfl,hfg,hc,es,el,et,hltn1]
     apply ih2 <;> simp[h1,h5,h9,h10]
    ·have hsc:=JL (post:=post) c1 c2
     have hL:=fun o=>QgF f hf hM (Zd l x) (by omega) (fun y hy=>by have:=(o1 y hy).2;unfold big;omega) o B
     have hem: (Zd l x).isEmpty=false:=by cases ho:Zd l x with
      | nil=>exact absurd ho c2
      | cons=>rfl
     have hpos:=List.length_pos_iff.2 c2
     have hput:=Qhg os hltn
     cases c3:U5 f (Zd l x)
     ·rw[c3]at hL
      have he:XU f (n+1) l os=XU f n (l ++ Zd l x) (os ++ [pre.length]):=by
       conv=>lhs;unfold XU
       rw[hs,hsc];simp[c3]
      have hb2: (l.length+ (Zd l x).length)*112≤140737488355328:=Sm (by omega)
      have hb3: (Zd l x).length≤140737488355328:=by omega
      have hI2:=Nf hI hk c1 c3
      have hi:=IHn (l ++ Zd l x) (os ++ [pre.length]) hI2 (l ++ Zd l x) []
      have hBs:=Qkn (i:=pre.length) (id:=id) (n:=l.length) (os:=os) ⟨hBt,hid,hBg⟩
      obtain⟨B2,ha,hB2⟩:=Qkm hBs (by omega) (Zd l x).length hpos (by omega) (fun i hi=>by
       rcases List.mem_append.1 hi with hi | hi
       ·exact hI.lt i hi
       ·rw[List.mem_singleton]at hi;omega)
      rw[List.length_set]at ha hB2
      have hi2:=fun ρ=>hi B2 B.length ρ rfl rfl (by rw[List.length_append];exact hB2)
      rw[he]
      generalize hmm:Zd l x=more at *
      rw[hte]at hL h1 hi2
      simp[-getElem?_pos,Yi,List.getElem?_cons_succ,h1,h5,h9,h10,h11,QI,hlt,hgt,hw0,hBg,hfl,hfg,hc,es,el,et,hltn1,hem,hL,hput,hb2,hb3,ha,Lr]
      apply hi2 <;> simp[h1,h9]
     ·rw[c3]at hL
      have he:XU f (n+1) l os=none:=by
       unfold XU
       rw[hs,hsc];simp[c3]
      rw[he]
      generalize hmm:Zd l x=more at *
      rw[hte]at hL h1
      simp[-getElem?_pos,Yi,List.getElem?_cons_succ,h1,h5,h9,h10,h11,QI,hlt,hgt,hBg,hfl,hfg,hc,es,el,et,hltn1,hem,hL,hBt,Ud,F.f450R,F.f450K]
   ·rw[c1]at hfg
    have ih2:=ih (by rw[hs,SW (.inl c1)];simp)
    generalize (Zd l x)=more at *
    simp[-getElem?_pos,Yi,List.getElem?_cons_succ,h1,h5,h9,h10,h11,QI,hlt,hgt,hw1,hBg,hfl,hfg,hc,es,el,et,hltn1]
    apply ih2 <;> simp[h1,h5,h9,h10]
theorem QgT (f:Fr) (hf:FOk f) (hM:massL f.t < 1000000) (hv:Za f=0) (bs:List (List AV)) (ρ:Nat→AV) (h1:ρ 1= .bx (Qq f)) (h5:ρ 5= .sl true 8 (Qr (ZN f))):
  R F.tb F.f450r1 ρ bs (Qx F.f450 bs)=some (Ud (Wt f) (ZN f).length,bs):=by
 obtain⟨hI,_⟩:=PV hv
 have hlen:=hI.len
 have hfl:List.replicate (ZN f).length (AV.bool false)=flg (ZN f).length []:=by
  have:=DG (n:=0) (k:=(ZN f).length) (os:=[]) (by simp)
  simpa[flg]using this
 have hFB:FB bs (bs ++ [flg (ZN f).length []]) bs.length (ZN f).length []:=⟨by simp,Nat.le_refl _,by simp⟩
 have h2:=fun ρ=>QgS f hf hM bs (ZN f).length 40000 (ZN f) [] hI (ZN f) [] _ _ ρ rfl rfl hFB
 have hb1: (ZN f).length≤140737488355328:=by omega
 have hb2: ((ZN f).length:Int)≤4611686018427387904:=by omega
 unfold Wt
 generalize XU f 40000 (ZN f) []=X at *
 generalize ZN f=L at *
 simp[F.f450r1,h1,h5,QI,hb1,hb2,hfl]
 apply h2 <;> simp[h1,h5]
theorem QgR (f:Fr) (hf:FOk f) (hM:massL f.t < 1000000) (hv:Za f=0) (bs:List (List AV)):
  ∀(post pre:List Tm) (o:Bool) (ρ:Nat→AV),Zt f=pre ++ post→ρ 1= .bx (Qq f)→ρ 5= .sl true 8 (Qr (Z7 0 f.t ++ pre.map fun a=>⟨a,a⟩))→ρ 7= .sl o 4 (encTs (Zt f))→ρ 8= .int .i64 pre.length→
  R F.tb (.loop F.f450l1) ρ bs (Qk 2 (Qv F.tb F.f450r1 (Qx F.f450 bs)))=some (Ud (Wt f) (ZN f).length,bs):=by
 obtain⟨hI,hl0⟩:=PV hv
 have hlen:=hI.len
 intro post
 induction post with
 | nil=>
  intro pre o ρ hk h1 h5 h7 h8
  simp only[List.append_nil]at hk
  rw[← hk]at h8 h5
  have h2:=fun ρ=>QgT f hf hM hv bs ρ
  rw[Qc F.f450l1.eq_1]
  simp[h1,h7,h8]
  apply h2 <;> simp[h1,h5,ZN]
 | cons x post IH=>
  intro pre o ρ hk h1 h5 h7 h8
  have hg:=Qp hk
  have hll: (Zt f).length=pre.length+ (post.length+1):=by rw[hk];simp
  have hw1:IntKind.i64.wrap ((pre.length:Int)+1)=(pre.length:Int)+1:=Ql (by omega) (by omega)
  have hlt: (pre.length:Int) < ((Zt f).length:Int):=by omega
  have ih:=fun ρ=>IH (pre ++ [x]) o ρ (by rw[hk];simp)
  have hb2: ((Z7 0 f.t ++ pre.map fun a=>(⟨a,a⟩:Rp)).length+1)*112≤140737488355328:=Sm (by simp only[List.length_append,List.length_map,UB];omega)
  have e1:=Qj x
  have ea:Qr (Z7 0 f.t ++ (pre ++ [x]).map fun a=>(⟨a,a⟩:Rp))=Qr (Z7 0 f.t ++ pre.map fun a=>(⟨a,a⟩:Rp))++ [QR ⟨x,x⟩]:=by simp[Qr]
  have er:QR ⟨x,x⟩=[.int .i64 x.kind,.str x.name,.int .i64 x.sort,.sl false 4 (encTs x.kids),.int .i64 x.kind,.str x.name,.int .i64 x.sort,.sl false 4 (encTs x.kids)]:=rfl
  rw[er]at ea
  simp only[ea]at ih
  generalize (Z7 0 f.t ++ pre.map fun a=>(⟨a,a⟩:Rp))=L at *
  rw[Qc F.f450l1.eq_1]
  simp[h1,h5,h7,h8,hg,hlt,hw1,e1,QI,hb2]
  apply ih <;> simp[h1,h7]
theorem QgQ (f:Fr) (hf:FOk f) (hM:massL f.t < 1000000) (hv:Za f=0) (bs:List (List AV)):
  ∀(post pre:List Tm) (ρ:Nat→AV),f.t=pre ++ post→ρ 1= .bx (Qq f)→ρ 5= .sl true 8 (Qr (Z7 0 pre))→ρ 6= .int .i64 pre.length→
  R F.tb (.loop F.f450l0) ρ bs (Qk 0 (Qv F.tb F.f450r2 (Qx F.f450 bs)))=some (Ud (Wt f) (ZN f).length,bs):=by
 have hle:=OE hv
 have hte:Qq f=[.sl false 4 (encTs f.s),.sl false 4 (encTs f.t)]:=rfl
 have happ: ∀(l:List Tm) (x:Tm) (i:Nat),Z7 i (l ++ [x])=Z7 i l ++ [⟨x,Xe (i+l.length)⟩]:=by
  intro l x
  induction l with
  | nil=>intro i;rfl
  | cons y l ih=>intro i;simp only[List.cons_append,Z7,ih (i+1),List.length_cons];rw[show i+1+l.length=i+ (l.length+1) by omega]
 intro post
 induction post with
 | nil=>
  intro pre ρ hk h1 h5 h6
  simp only[List.append_nil]at hk
  rw[← hk]at h6 h5
  have h2:=fun o ρ=>QgR f hf hM hv bs (Zt f) [] o ρ rfl
  have hc:=Dd f hf hM bs
  rw[hte]at hc h1 h2
  rw[Qc F.f450l0.eq_1]
  simp[h1,h6,F.f450r2,hc]
  apply h2 <;> first | rfl | simp[h1,h5]
 | cons x post IH=>
  intro pre ρ hk h1 h5 h6
  have hg:=Qp hk
  have hll:f.t.length=pre.length+ (post.length+1):=by rw[hk];simp
  have hw1:IntKind.i64.wrap ((pre.length:Int)+1)=(pre.length:Int)+1:=Ql (by omega) (by omega)
  have hlt: (pre.length:Int) < (f.t.length:Int):=by omega
  have ih:=fun ρ=>IH (pre ++ [x]) ρ (by rw[hk];simp)
  have hb2: ((Z7 0 pre).length+1)*112≤140737488355328:=Sm (by rw[UB];omega)
  have e1:=Qj x
  have hit:=Df pre.length bs (by omega)
  have e2:Qa (Xe pre.length)=[.int .i64 1,.str (119:: Xr pre.length),.int .i64 0,.sl false 4 []]:=by simp[Xe,Qa,encTs]
  have ea:Qr (Z7 0 (pre ++ [x]))=Qr (Z7 0 pre)++ [[.int .i64 x.kind,.str x.name,.int .i64 x.sort,.sl false 4 (encTs x.kids),.int .i64 1,.str (119:: Xr pre.length),.int .i64 0,.sl false 4 []]]:=by
   rw[happ];simp[Qr,QR,Xe,encTs]
  rw[ea]at ih
  rw[e2]at hit
  rw[hte]at h1 ih
  generalize Z7 0 pre=L at *
  rw[Qc F.f450l0.eq_1]
  simp[h1,h5,h6,hg,hlt,hw1,e1,QI,hb2,hit]
  apply ih <;> simp[h1]
theorem Dm (f:Fr) (hf:FOk f) (hM:massL f.t < 1000000) (hv:Za f=0) (bs:List (List AV)):call F.tb 450 [.agg (Qq f)] bs=some (Ud (Wt f) (ZN f).length,bs):=by
 have h:=fun ρ=>QgQ f hf hM hv bs f.t [] ρ rfl
 have hte:Qq f=[.sl false 4 (encTs f.s),.sl false 4 (encTs f.t)]:=rfl
 rw[Qb F.tb_450 _ _ rfl]
 rw[hte]at h ⊢
 simp[F.f450B,F.f450C]
 apply h <;> simp[Z7,Qr]
end Go.Am
namespace Go.Am
set_option maxRecDepth 8000
theorem Fo (t:Tm) (hm:t.mass < big) (hne:t.kids≠[]) (ih: ∀x∈t.kids,∀bs,call F.tb 430 [.agg (Qa x)] bs=some (.agg (Qa x),bs)) (B:List (List AV)):
  ∀(post pre:List Tm) (ρ:Nat→AV),t.kids=pre ++ post→ρ 1= .bx [.int .i64 t.kind,.str t.name,.int .i64 t.sort,.gs B.length 0 4 t.kids.length]→ρ 2= .bx [.int .i64 0,.str [],.int .i64 0,.sl true 4 []]→
   ρ 10= .gs B.length 0 4 t.kids.length→ρ 11= .int .i64 t.kids.length→ρ 12= .int .i64 pre.length→
  R F.tb (.loop F.f430l0) ρ (B ++ [Qw t.kids]) (Qk 0 (Qv F.tb F.f430r0 (Qx F.f430 B)))=some (.agg (Qa t),B):=by
 have hm2:=Qo t
 unfold big at hm
 have es: ∀x y:List AV,(B ++ [x]).set B.length y=B ++ [y]:=fun x y=>by rw[List.set_append];simp
 have eg: ∀x:List AV,(B ++ [x])[B.length]? =some x:=fun x=>List.getElem?_concat_length
 have hlen: (Qw t.kids).length=t.kids.length*4:=Z2 QO _
 have hst: (Qw t.kids).map AV.strip=Qw t.kids:=Z5 Zs _
 intro post
 induction post with
 | nil=>
  intro pre ρ hk h1 h2 h10 h11 h12
  simp only[List.append_nil]at hk
  rw[← hk]at h12
  have hch:ZU (Qw t.kids) 0 4 t.kids.length=encTs t.kids:=by
   have:=Xx (f:=Qa) (k:=4) QO Zs t.kids []
   rw[UF,List.append_nil]at this
   exact this
  have hz: ¬t.kids.length=0:=fun e=>hne (List.eq_nil_of_length_eq_zero e)
  rw[Qc F.f430l0.eq_1]
  simp[h1,h2,h10,h11,h12,F.f430r0,F.f430R,F.f430K,hz,hne,hlen,hch,es,eg,X6,Tm.eta]
 | cons x post IH=>
  intro pre ρ hk h1 h2 h10 h11 h12
  have hl:t.kids.length=pre.length+ (post.length+1):=by rw[hk];simp
  have hw1:IntKind.i64.wrap ((pre.length:Int)+1)=(pre.length:Int)+1:=Ql (by omega) (by omega)
  have hlt: (pre.length:Int) < (t.kids.length:Int):=by omega
  have hlt':pre.length < t.kids.length:=by omega
  have r1: ((Qw t.kids).drop (pre.length*4)).take 4=Qa x:=by
   have:=VB (f:=Qa) (k:=4) QO hk []
   simpa using this
  have hput: (Qw t.kids).take (pre.length*4)++ (Qa x ++ (Qw t.kids).drop (pre.length*4+4))=Qw t.kids:=by
   have:=P2 (f:=Qa) (k:=4) QO x hk []
   rw[← hk]at this
   simpa using this
  have hle:pre.length*4+4≤t.kids.length*4:=by omega
  have hc:=ih x (by rw[hk];simp)
  have h2':=IH (pre ++ [x])
  rw[Qc F.f430l0.eq_1]
  generalize Qw t.kids=c at *
  simp[h1,h2,h10,h11,h12,hw1,hlt,hlt',eg,es,hlen,hle,hst,r1,hc,hput]
  refine h2' _ (by rw[hk];simp) ?_ ?_ ?_ ?_ ?_ <;> simp[h1,h2,h10,h11]
theorem V9: ∀(t:Tm) (bs:List (List AV)),t.mass < big→call F.tb 430 [.agg (Qa t)] bs=some (.agg (Qa t),bs):=by
 refine Zh ?_
 intro k n s ks ih bs hm
 have hme:=Qo (.mk k n s ks)
 simp only[QJ,Q3]at hme
 have hb:ks.length*56≤140737488355328:=by unfold big at hm;omega
 rw[Qb F.tb_430 _ _ rfl]
 have ho:call F.tb 193 [.sl false 4 (encTs ks)] bs=if ks.length=0 then some (.gs 0 0 0 0,bs)else some (.gs bs.length 0 4 ks.length,bs ++ [Qw ks]):=by
  have hst: (Qw ks).map AV.strip=Qw ks:=Z5 Zs _
  rw[XH F.tb_193]
  simp only[U0,if_true,Sg,XJ,hb,encTs_gp,Oh,hst]
 by_cases hk:ks=[]
 ·subst hk
  simp[F.f430B,F.f430C,Qj,encTs]at ho ⊢
  simp[ho]
  rw[Qc F.f430l0.eq_1]
  simp[F.f430r0,F.f430R,F.f430K]
 ·have hz: ¬ks.length=0:=fun e=>hk (List.eq_nil_of_length_eq_zero e)
  rw[if_neg hz]at ho
  have hl:=fun ρ=>Fo (.mk k n s ks) hm hk (fun x hx bs=>ih x hx bs (by have:=Qz (show x∈ks from hx);omega)) bs ks [] ρ rfl
  simp only[Xi,Q3,WT,QJ]at hl
  simp[F.f430B,F.f430C]
  simp[Qj,ho]
  have e:AV.agg [.int .i64 k,.str n,.int .i64 s,.sl false 4 (encTs ks)]= .agg (Qa (.mk k n s ks)):=by rw[Qj];rfl
  rw[e]
  refine hl _ ?_ ?_ ?_ ?_ ?_ <;> simp
theorem X8 (q:Tst): (ZH q).length=9:=by simp[VU]
theorem Xb (q:Tst): (ZH q).map AV.strip=ZH q:=by simp[VU]
theorem Qbb (q:Tst):gpfreeL (ZH q)=true:=by simp[VU]
def QK (l:List Tst):List (List AV):=l.map ZH
theorem Y3 (l:List Tst): (QK l).length=l.length:=by simp[QK]
theorem Mg (a b:List Tst):QK a ++ QK b=QK (a ++ b):=by simp[QK]
theorem FQ {l:List Tst} {i:Nat} {q:Tst} (h:l[i]? =some q): (QK l)[i]? =some (ZH q):=by simp[QK,h]
theorem WI: ∀l:List Tst,gpfreeE (QK l)=true
 | []=>rfl
 | x:: l=>by
  have:=WI l
  unfold QK at this
  simp only[QK,List.map_cons,gpfreeE,Qbb,this,Bool.and_self]
abbrev UE (l:List Tst):List AV:=ZL ZH l
def TB (bs B:List (List AV)) (l:List Tst):Prop:=∃(v:AV) (M:List (List AV)) (id sz:Nat),B=(bs ++ [[v]])++ M∧v= .gs id 0 sz l.length∧
 ((l=[]∧id=0∧sz=0)∨(sz=9∧bs.length+1≤id∧l≠[]∧B[id]? =some (UE l)))
theorem QkI (bs:List (List AV)):TB bs (bs ++ [[.gs 0 0 0 0]]) []:=⟨_,[],0,0,by simp,rfl,.inl ⟨rfl,rfl,rfl⟩⟩
theorem Oa (bs:List (List AV)) (v v':AV) (M:List (List AV)): (bs ++ [[v]]++ M).set bs.length [v']=bs ++ [[v']]++ M:=by simp
theorem QkG {bs B:List (List AV)} {l:List Tst} (q:Tst) (o:Bool) (h:TB bs B l) (hl:l.length < 1000000):
  ∃id sz id' B1,B[bs.length]? =some [.gs id 0 sz l.length]∧appM 120 9 (.gs id 0 sz l.length) (.sl o 9 [ZH q]) B=some (.gs id' 0 9 (l.length+1),B1)∧B1[bs.length]? =some [.gs id 0 sz l.length]∧
   TB bs (B1.set bs.length [.gs id' 0 9 (l.length+1)]) (l ++ [q]):=by
 obtain⟨v,M,id,sz,rfl,rfl,hc⟩:=h
 have hb: (l.length+1)*120≤140737488355328:=by
  have: ∀n,n < 1000000→(n+1)*120≤140737488355328:=fun n h=>by omega
  exact this _ hl
 have hs: ∀X,Wh 9 (.sl o 9 [ZH q]) X=some (1,ZH q):=fun X=>by simp[Wh,Xb]
 refine⟨id,sz,(bs ++ [[AV.gs id 0 sz l.length]]++ M).length,?_⟩
 rcases hc with⟨rfl,rfl,rfl⟩ | ⟨rfl,hid,hne0,hbx⟩
 ·refine⟨bs ++ [[.gs 0 0 0 0]]++ (M ++ [ZH q]),by simp,?_,by simp,.gs (bs ++ [[AV.gs 0 0 0 0]]++ M).length 0 9 1,M ++ [ZH q],_,9,?_,rfl,.inr ⟨rfl,by simp,by simp,?_⟩⟩
  ·simp[appM,hs]
  ·rw[List.length_nil,Nat.zero_add,Oa]
  ·have e: (bs ++ [[AV.gs 0 0 0 0]]++ M).length=(bs ++ [[AV.gs (bs ++ [[AV.gs 0 0 0 0]]++ M).length 0 9 1]]++ M).length:=by simp
   rw[List.length_nil,Nat.zero_add,Oa,← List.append_assoc]
   conv=>lhs;arg 2;rw[e]
   rw[List.getElem?_concat_length]
   simp[ZL]
 ·have hr: (UE l).length=l.length*9:=Z2 X8 l
  have hrow:UE (l ++ [q])=UE l ++ ZH q:=by simp[XZ,Sa]
  have hst: (UE l).map AV.strip=UE l:=Z5 Xb l
  have hpos:0 < l.length:=List.length_pos_iff.2 hne0
  have hne:UE l≠[]:=by
   intro e;rw[e]at hr;simp at hr
   omega
  have hroom: ¬(l.length+1)*9≤(UE l).length:=by omega
  have hbase: (bs ++ [[AV.gs id 0 9 l.length]]++ M).set id []=bs ++ [[AV.gs id 0 9 l.length]]++ M.set (id - (bs ++ [[AV.gs id 0 9 l.length]]).length) []:=Y0 (by simpa using hid) _
  refine⟨(bs ++ [[AV.gs id 0 9 l.length]]++ M).set id []++ [UE l ++ ZH q],by simp,?_,?_,.gs (bs ++ [[AV.gs id 0 9 l.length]]++ M).length 0 9 (l.length+1),M.set (id - (bs ++ [[AV.gs id 0 9 l.length]]).length) []++ [UE l ++ ZH q],(bs ++ [[AV.gs id 0 9 l.length]]++ M).length,9,?_,by simp,.inr ⟨rfl,by simp,by simp,?_⟩⟩
  ·simp only[appM,hs,Option.bind_some]
   rw[if_pos ⟨by omega,hb⟩,if_neg (by omega),if_neg (by omega),if_pos ⟨trivial,trivial⟩,hbx]
   simp only[Option.bind_some]
   rw[if_pos ⟨hne,by omega⟩,if_neg hroom,List.take_of_length_le (by omega),hst]
  ·rw[hbase];simp
  ·rw[hbase,List.append_assoc _ (M.set _ _),Oa]
  ·rw[hbase,List.append_assoc _ (M.set _ _),Oa,hrow,← List.append_assoc]
   have e: ∀v:AV,(bs ++ [[AV.gs id 0 9 l.length]]++ M).length=(bs ++ [[v]]++ M.set (id - (bs ++ [[AV.gs id 0 9 l.length]]).length) []).length:=fun v=>by simp
   generalize hn: (bs ++ [[AV.gs id 0 9 l.length]]++ M).length=n at *
   have h:=List.getElem?_concat_length (l:=bs ++ [[AV.gs n 0 9 (l.length+1)]]++ M.set (id - (bs ++ [[AV.gs id 0 9 l.length]]).length) []) (a:=UE l ++ ZH q)
   rw[← e (.gs n 0 9 (l.length+1))]at h
   exact h
theorem PQ {bs B:List (List AV)} {l:List Tst} (h:TB bs B l) (hl:l.length < 1000000) (a b:Tm) (ha:a.mass < big) (hb:b.mass < big):
  ∃B',call F.tb 429 [.agg (Qa a),.agg (Qa b),.gp bs.length 0] B=some (.tup [],B')∧TB bs B' (l ++ [⟨a,b,false⟩]):=by
 obtain⟨id,sz,id',B1,h1,h2,h3,h4⟩:=QkG ⟨a,b,false⟩ true h hl
 refine⟨_,?_,h4⟩
 have hca:=V9 a B ha
 have hcb:=V9 b B hb
 have ea:=Qj a
 have eb:=Qj b
 rw[VU]at h2
 have h2':appM 120 9 (.gs id 0 sz l.length) (.sl false 9 [[.int .i64 a.kind,.str a.name,.int .i64 a.sort,.sl false 4 (encTs a.kids),.int .i64 b.kind,.str b.name,.int .i64 b.sort,.sl false 4 (encTs b.kids),.bool false]]) B=some (.gs id' 0 9 (l.length+1),B1):=h2
 have hlt:=(List.getElem?_eq_some_iff.1 h1).1
 have hlt3:=(List.getElem?_eq_some_iff.1 h3).1
 rw[ea]at hca
 rw[eb]at hcb
 rw[Qb F.tb_429 _ _ rfl]
 simp[-getElem?_pos,Yi,F.f429B,F.f429C,F.f429R,F.f429K,h1,h2',h3,hca,hcb,ea,eb]
theorem QkH {bs B:List (List AV)} {l:List Tst} (h:TB bs B l): ∃v M2,B[bs.length]? =some [v]∧v.one=true∧v.strip=v∧∀(n:Nat) (ρ:Nat→AV),ρ n=v→Z4 {env:=ρ,bs:=B} n 9=some (.sl true 9 (QK l),{env:=upd ρ n .undef,bs:=bs ++ M2}):=by
 obtain⟨v,M,id,sz,rfl,rfl,hc⟩:=h
 rcases hc with⟨rfl,rfl,rfl⟩ | ⟨rfl,hid,hne,hb⟩
 ·exact⟨_,[[.gs 0 0 0 0]]++ M,by simp;rfl,rfl,rfl,fun n ρ hn=>by simp[Z4,hn,QK]⟩
 ·have hbase: (bs ++ [[AV.gs id 0 9 l.length]]++ M).set id []=bs ++ [[AV.gs id 0 9 l.length]]++ M.set (id - (bs ++ [[AV.gs id 0 9 l.length]]).length) []:=Y0 (by simpa using hid) _
  refine⟨.gs id 0 9 l.length,[[AV.gs id 0 9 l.length]]++ M.set (id - (bs ++ [[AV.gs id 0 9 l.length]]).length) [],by simp,rfl,rfl,fun n ρ hn=> ?_⟩
  have hz: ¬l.length=0:=fun e=>hne (List.eq_nil_of_length_eq_zero e)
  have hr: (UE l).length=l.length*9:=Z2 X8 l
  have hch:ZU (UE l) 0 9 l.length=QK l:=by
   have:=Xx (f:=ZH) (k:=9) X8 Xb l []
   rw[List.append_nil]at this;exact this
  simp only[Z4,hn]
  rw[if_pos ⟨trivial,by omega⟩,if_neg hz,hb]
  simp only[Option.bind_some]
  rw[if_pos (by omega),hch,hbase,List.append_assoc]
  rfl
end Go.Am
namespace Go.Am
set_option maxRecDepth 8000
def AC.fstS:AC→AC
 | .seq a _=>a
 | x=>x
def AC.sndS:AC→AC
 | .seq _ b=>b
 | x=>x
def tsA (l:List Rp) (x:Rp) (i:Nat):List Tst:=((l.take i).filter fun y=>decide (Qm y.t x.t=0)).map fun y=>⟨x.b,y.b,false⟩
def tsB (x:Rp):List Tst:=if Yh x.t then [⟨x.b,x.t,false⟩]else []
def tsC (l:List Rp) (x:Rp):List Tst:=match XS l x.t with
 | some u=>[⟨x.b,u,false⟩]
 | none=>[]
def tsD (x:Rp) (g:Bool):List Tst:=if g then [⟨x.b,x.b,false⟩]else []
def Vv (l:List Rp) (x:Rp):Option Tm:=if isB x.t QW then(ofT l (.mk 3 PK 0 [kid x.t 1])).map fun u=> .mk 3 QT 0 [x.b,u]else none
def tsE (l:List Rp) (x:Rp):List Tst:=match Vv l x with
 | some v=>[⟨v,.mk 3 READ 0 [x.b],false⟩]
 | none=>[]
def Yy (l:List Rp) (x:Rp) (i:Nat) (g:Bool):List Tst:=tsA l x i ++ tsB x ++ tsC l x ++ tsD x g ++ tsE l x
def WV (l:List Rp) (x:Rp):List Tm:=match XS l x.t with
 | some u=>[u]
 | none=>[]
def Xt (l:List Rp) (x:Rp):List Tm:=match Vv l x with
 | some v=>[v,.mk 3 READ 0 [x.b]]
 | none=>[]
def WY (l:List Rp) (x:Rp):List Tm:=WV l x ++ Xt l x
structure TF (ρ:Nat→AV) (l:List Rp) (i g:Nat) (x:Rp) (p:Nat) (mk:List Tm):Prop where
 h0:ρ 0= .sl false 8 (Qr l)
 h1:ρ 1= .int .i64 i
 h2:ρ 2= .int .i64 g
 h8:ρ 8= .bx (Qa x.t)
 h9:ρ 9= .bx (Qa x.b)
 h10:ρ 10= .gp p 0
 h11:ρ 11= .sl true 4 (encTs mk)
 h12:ρ 12= .fn 429 [.gp p 0]
theorem QkW {l:List Rp} {x:Rp} {i g:Nat} {bs B:List (List AV)} {ts:List Tst} {mk:List Tm} (hx:x.t.mass < 1000000∧x.b.mass < 1000000) (hT:TB bs B ts) (hl:ts.length < 1000000) (C:AC) (K:Kn) (X:Out)
  (hX: ∀ρ B,TB bs B (ts ++ tsB x)→TF ρ l i g x bs.length mk→R F.tb C ρ B K=X) (ρ:Nat→AV) (h:TF ρ l i g x bs.length mk):
  R F.tb F.f428r0.fstS ρ B (Qv F.tb C K)=X:=by
 obtain⟨h0,h1,h2,h8,h9,h10,h11,h12⟩:=h
 have hp:=PO x.t B hx.1
 obtain⟨B',hc,hT'⟩:=PQ hT hl x.b x.t (by unfold big;omega) (by unfold big;omega)
 have e1:=Qj x.t
 have e2:=Qj x.b
 cases c:Yh x.t
 ·rw[c]at hp
  have e:ts ++ tsB x=ts:=by simp[tsB,c]
  rw[e]at hX
  rw[e1]at hp h8
  simp[AC.fstS,F.f428r0,h8,hp]
  refine hX _ _ hT ⟨?_,?_,?_,?_,?_,?_,?_,?_⟩ <;> simp[h0,h1,h2,h8,h9,h10,h11,h12,e1]
 ·rw[c]at hp
  have e:ts ++ tsB x=ts ++ [⟨x.b,x.t,false⟩]:=by simp[tsB,c]
  rw[e]at hX
  rw[e1]at hp h8 hc
  rw[e2]at hc h9
  simp[AC.fstS,F.f428r0,h8,h9,h12,hp,hc]
  refine hX _ _ hT' ⟨?_,?_,?_,?_,?_,?_,?_,?_⟩ <;> simp[h0,h1,h2,h8,h9,h10,h11,h12,e1,e2]
theorem H4 {l:List Rp} (hl:ROk l) {t u:Tm} (ht:t.mass < 1000000) (hn:t.nodes≤401) (h:XS l t=some u):u.mass < 500000000:=by
 unfold XS at h
 split at h
 ·cases ho:ofL l t.kids with
  | none=>rw[ho]at h;cases h
  | some us=>
   rw[ho]at h
   simp only[Option.map_some,Option.some.injEq]at h
   subst h
   have h1:=ofL_mass hl.2 ho
   have h2:=ofL_len ho
   have e1:=Qo (.mk 3 t.name 0 us)
   have e2:=Qo t
   have e3:=ZO t
   simp only[QJ,Q3]at e1
   have:1000000*nodesL t.kids≤1000000*400:=Nat.mul_le_mul_left _ (by omega)
   omega
 ·cases h
theorem DV {l:List Rp} (hl:ROk l) {t u:Tm} (ht:t.mass < 1000000) (hn:t.nodes≤402) (h:ofT l t=some u):u.mass < 500000000:=by
 have h1:=MR hl.2 h
 have:1000000*t.nodes≤1000000*402:=Nat.mul_le_mul_left _ hn
 omega
theorem QbK {n:Nat} (h:n≤100):n*56≤140737488355328:=by omega
theorem QkX {l:List Rp} {x:Rp} {i g:Nat} {bs B:List (List AV)} {ts:List Tst} (hR:ROk l) (hx:x.t.mass < 1000000∧x.b.mass < 1000000) (hn:x.t.nodes≤401) (hT:TB bs B ts) (hl:ts.length < 1000000) (C:AC) (K:Kn) (X:Out)
  (hX: ∀ρ B,TB bs B (ts ++ tsC l x)→TF ρ l i g x bs.length (WV l x)→R F.tb C ρ B K=X) (ρ:Nat→AV) (h:TF ρ l i g x bs.length []):
  R F.tb F.f428r0.sndS.fstS ρ B (Qv F.tb C K)=X:=by
 obtain⟨h0,h1,h2,h8,h9,h10,h11,h12⟩:=h
 have hp:=Qgu l hR x.t hx.1 false B
 have e1:=Qj x.t
 have e2:=Qj x.b
 cases c:XS l x.t with
 | none=>
  rw[c,ZR]at hp
  have e:tsC l x=[]:=by simp[tsC,c]
  have em:WV l x=[]:=by simp[WV,c]
  rw[e,em,List.append_nil]at hX
  rw[e1]at hp h8
  simp[AC.fstS,AC.sndS,F.f428r0,h0,h8,hp]
  refine hX _ _ hT ⟨?_,?_,?_,?_,?_,?_,?_,?_⟩ <;> simp[h0,h1,h2,h8,h9,h10,h11,h12,e1]
 | some u=>
  rw[c,ZG]at hp
  have hum:=H4 hR hx.1 hn c
  obtain⟨B',hc,hT'⟩:=PQ hT hl x.b u (by unfold big;omega) (by unfold big;omega)
  have e:tsC l x=[⟨x.b,u,false⟩]:=by simp[tsC,c]
  have em:WV l x=[u]:=by simp[WV,c]
  rw[e,em]at hX
  have eu:=Qj u
  rw[e1]at hp h8
  rw[eu]at hp hc
  rw[e2]at hc h9
  have hb:=QbK (n:=1) (by omega)
  have en:encTs []=[]:=rfl
  rw[en]at h11
  simp[AC.fstS,AC.sndS,F.f428r0,h0,h8,h9,h11,h12,hp,hc]
  refine hX _ _ hT' ⟨?_,?_,?_,?_,?_,?_,?_,?_⟩ <;> simp[h0,h1,h2,h8,h9,h10,h11,h12,e1,e2,encTs,eu]
theorem QkY {l:List Rp} {x:Rp} {i g:Nat} {bs B:List (List AV)} {ts:List Tst} {mk:List Tm} (hx:x.t.mass < 1000000∧x.b.mass < 1000000) (hT:TB bs B ts) (hl:ts.length < 1000000) (C:AC) (K:Kn) (X:Out)
  (hX: ∀ρ B,TB bs B (ts ++ tsD x (decide (g≤i)))→TF ρ l i g x bs.length mk→R F.tb C ρ B K=X) (ρ:Nat→AV) (h:TF ρ l i g x bs.length mk):
  R F.tb F.f428r0.sndS.sndS.fstS ρ B (Qv F.tb C K)=X:=by
 obtain⟨h0,h1,h2,h8,h9,h10,h11,h12⟩:=h
 obtain⟨B',hc,hT'⟩:=PQ hT hl x.b x.b (by unfold big;omega) (by unfold big;omega)
 have e2:=Qj x.b
 by_cases c:g≤i
 ·have c': (g:Int)≤(i:Int):=by omega
  have e:ts ++ tsD x (decide (g≤i))=ts ++ [⟨x.b,x.b,false⟩]:=by simp[tsD,c]
  rw[e]at hX
  rw[e2]at hc h9
  simp[AC.fstS,AC.sndS,F.f428r0,h1,h2,h9,h12,c',hc]
  refine hX _ _ hT' ⟨?_,?_,?_,?_,?_,?_,?_,?_⟩ <;> simp[h0,h1,h2,h8,h9,h10,h11,h12,e2]
 ·have c': ¬(g:Int)≤(i:Int):=by omega
  have e:ts ++ tsD x (decide (g≤i))=ts:=by simp[tsD,c]
  rw[e]at hX
  simp[AC.fstS,AC.sndS,F.f428r0,h1,h2,c']
  refine hX _ _ hT ⟨?_,?_,?_,?_,?_,?_,?_,?_⟩ <;> simp[h0,h1,h2,h8,h9,h10,h11,h12]
theorem QkZ {l:List Rp} {x:Rp} {i g:Nat} {bs B:List (List AV)} {ts:List Tst} {mk:List Tm} (hR:ROk l) (hv:thV x.t=0) (hx:x.b.mass < 1000000) (hT:TB bs B ts) (hl:ts.length < 1000000) (hmk:mk.length≤10) (C:AC) (K:Kn) (X:Out)
  (hX: ∀ρ B,TB bs B (ts ++ tsE l x)→TF ρ l i g x bs.length (mk ++ Xt l x)→R F.tb C ρ B K=X) (ρ:Nat→AV) (h:TF ρ l i g x bs.length mk):
  R F.tb F.f428r0.sndS.sndS.sndS.fstS ρ B (Qv F.tb C K)=X:=by
 obtain⟨h0,h1,h2,h8,h9,h10,h11,h12⟩:=h
 obtain⟨_,_,hg,hma,hno⟩:=ZY hv
 have p2: ∀o,call F.tb 416 [.agg (Qa x.t),.sl o 1 [[.str [115,105,103,110]]]] B=some (.bool (isB x.t QW),B):=fun o=>by
  have:=NV x.t [QW] o B (by simp)
  rw[DN]at this
  exact this
 have e1:=Qj x.t
 have e2:=Qj x.b
 cases c:isB x.t QW
 ·rw[c]at p2
  have e:tsE l x=[]:=by simp[tsE,Vv,c]
  have em:Xt l x=[]:=by simp[Xt,Vv,c]
  rw[e,em,List.append_nil,List.append_nil]at hX
  rw[e1]at p2 h8
  simp[AC.fstS,AC.sndS,F.f428r0,h8,p2]
  refine hX _ _ hT ⟨?_,?_,?_,?_,?_,?_,?_,?_⟩ <;> simp[h0,h1,h2,h8,h9,h10,h11,h12,e1]
 ·rw[c]at p2
  obtain⟨y,z,hk⟩:=Q0 hg c (by simp[Q6])
  have ekd:kid x.t 1=z:=by simp[kid,hk]
  have hnn:=ZO x.t
  have hmm:=Qo x.t
  rw[hk]at hnn hmm
  simp only[nodesL,massL]at hnn hmm
  have hpm: (Tm.mk 3 PK 0 [z]).mass < 1000000:=by simp only[Tm.mass,massL,PK,List.length_cons,List.length_nil];omega
  have hpn: (Tm.mk 3 PK 0 [z]).nodes≤402:=by simp only[Tm.nodes,nodesL];omega
  have ez:=Qj z
  have ey:=Qj y
  have q1: ∀o,call F.tb 417 [.str [112,107],.sl o 4 [Qa z]] B=some (.agg (Qa (.mk 3 PK 0 [z])),B):=fun o=>T4 PK [z] o B
  have q2:=KN l hR (.mk 3 PK 0 [z]) false B hpm
  have e3: ∀n ks,Qa (.mk 3 n 0 ks)=[.int .i64 3,.str n,.int .i64 0,.sl false 4 (encTs ks)]:=fun n ks=>by simp[Qa]
  rw[hk]at e1
  simp only[encTs]at e1
  cases c2:ofT l (.mk 3 PK 0 [z])with
  | none=>
   rw[c2,ZR]at q2
   have e:tsE l x=[]:=by simp[tsE,Vv,c,ekd,c2]
   have em:Xt l x=[]:=by simp[Xt,Vv,c,ekd,c2]
   rw[e,em,List.append_nil,List.append_nil]at hX
   rw[e1]at p2 h8
   simp only[e3,ez,encTs]at q1 q2
   simp only[ez]at p2 h8
   simp[AC.fstS,AC.sndS,F.f428r0,h0,h8,p2,q1,q2]
   refine hX _ _ hT ⟨?_,?_,?_,?_,?_,?_,?_,?_⟩ <;> simp[h0,h1,h2,h8,h9,h10,h11,h12,e1,ez]
  | some u=>
   rw[c2,ZG]at q2
   have hum:=DV hR hpm hpn c2
   have hm1: (Tm.mk 3 QT 0 [x.b,u]).mass < big:=by simp only[Tm.mass,massL,QT,List.length_cons,List.length_nil,big];omega
   have hm2: (Tm.mk 3 READ 0 [x.b]).mass < big:=by simp only[Tm.mass,massL,READ,List.length_cons,List.length_nil,big];omega
   obtain⟨B',hc,hT'⟩:=PQ hT hl (.mk 3 QT 0 [x.b,u]) (.mk 3 READ 0 [x.b]) hm1 hm2
   have e:tsE l x=[⟨.mk 3 QT 0 [x.b,u],.mk 3 READ 0 [x.b],false⟩]:=by simp[tsE,Vv,c,ekd,c2]
   have em:Xt l x=[.mk 3 QT 0 [x.b,u],.mk 3 READ 0 [x.b]]:=by simp[Xt,Vv,c,ekd,c2]
   rw[e,em]at hX
   have eu:=Qj u
   have q3: ∀o B,call F.tb 417 [.str [111,112,101,110],.sl o 4 [Qa x.b,Qa u]] B=some (.agg (Qa (.mk 3 QT 0 [x.b,u])),B):=fun o B=>T4 QT [x.b,u] o B
   have q4: ∀o B,call F.tb 417 [.str [114,101,97,100],.sl o 4 [Qa x.b]] B=some (.agg (Qa (.mk 3 READ 0 [x.b])),B):=fun o B=>T4 READ [x.b] o B
   have hb: (mk.length+2)*56≤140737488355328:=QbK (by omega)
   rw[e1]at p2 h8
   rw[e2]at h9
   simp only[e3,ez,e2,eu,encTs]at q1 q2 q3 q4 hc
   simp only[ez]at p2 h8
   simp[AC.fstS,AC.sndS,F.f428r0,h0,h8,h9,h11,h12,p2,q1,q2,q3,q4,hc,hb]
   refine hX _ _ hT' ⟨?_,?_,?_,?_,?_,?_,?_,?_⟩ <;> simp[h0,h1,h2,h8,h9,h10,h11,h12,e1,ez,e2,eu,← QQ,encTs,e3]
theorem Qk0 {l:List Rp} {x:Rp} {i g:Nat} {bs B:List (List AV)} {ts:List Tst} {mk:List Tm} (hT:TB bs B ts) (ρ:Nat→AV) (h:TF ρ l i g x bs.length mk):
  R F.tb F.f428r0.sndS.sndS.sndS.sndS ρ B (Qx F.f428 bs)=some (.tup [.sl false 9 (QK ts),.sl false 4 (encTs mk)],bs):=by
 obtain⟨h0,h1,h2,h8,h9,h10,h11,h12⟩:=h
 obtain⟨v,M2,b1,b2,b3,b4⟩:=QkH hT
 have hg:=WI ts
 simp[AC.fstS,AC.sndS,F.f428r0,h10,h11,b1,b2,b3,b4,hg,F.f428R,F.f428K]
end Go.Am
namespace Go.Am
set_option maxRecDepth 8000
theorem QkV {l:List Rp} {x:Rp} {i g:Nat} {bs B:List (List AV)} {ts:List Tst} (hR:ROk l) (hv:thV x.t=0) (hx:x.b.mass < 1000000) (hT:TB bs B ts) (hl:ts.length < 900000) (ρ:Nat→AV) (h:TF ρ l i g x bs.length []):
  R F.tb F.f428r0 ρ B (Qx F.f428 bs)=some (.tup [.sl false 9 (QK (ts ++ tsB x ++ tsC l x ++ tsD x (decide (g≤i))++ tsE l x)),.sl false 4 (encTs (WY l x))],bs):=by
 obtain⟨_,_,hg,hma,hno⟩:=ZY hv
 have n1: (tsB x).length≤1:=by unfold tsB;split <;> simp
 have n2: (tsC l x).length≤1:=by unfold tsC;split <;> simp
 have n3: (tsD x (decide (g≤i))).length≤1:=by unfold tsD;split <;> simp
 have n4: (WV l x).length≤1:=by unfold WV;split <;> simp
 have e1:F.f428r0= .seq F.f428r0.fstS F.f428r0.sndS:=rfl
 rw[e1,U9]
 refine QkW ⟨by omega,hx⟩ hT (by omega) _ _ _ ?_ ρ h
 intro ρ B hT h
 have e2:F.f428r0.sndS= .seq F.f428r0.sndS.fstS F.f428r0.sndS.sndS:=rfl
 rw[e2,U9]
 refine QkX hR ⟨by omega,hx⟩ (by omega) hT (by rw[List.length_append];omega) _ _ _ ?_ ρ h
 intro ρ B hT h
 have e3:F.f428r0.sndS.sndS= .seq F.f428r0.sndS.sndS.fstS F.f428r0.sndS.sndS.sndS:=rfl
 rw[e3,U9]
 refine QkY ⟨by omega,hx⟩ hT (by simp only[List.length_append];omega) _ _ _ ?_ ρ h
 intro ρ B hT h
 have e4:F.f428r0.sndS.sndS.sndS= .seq F.f428r0.sndS.sndS.sndS.fstS F.f428r0.sndS.sndS.sndS.sndS:=rfl
 rw[e4,U9]
 refine QkZ hR hv hx hT (by simp only[List.length_append];omega) (by omega) _ _ _ ?_ ρ h
 intro ρ B hT h
 exact Qk0 hT ρ h
theorem QkU {l:List Rp} {x:Rp} {i g:Nat} {bs:List (List AV)} (A:List Rp) (hA:A.length < 200000) (hAm: ∀y∈A,y.t.mass < 1000000∧y.b.mass < 1000000) (hx:x.t.mass < 1000000∧x.b.mass < 1000000) (C:AC) (K:Kn) (X:Out):
  ∀(post pre:List Rp) (ts:List Tst) (B:List (List AV)) (ρ:Nat→AV),A=pre ++ post→TB bs B ts→ts.length≤pre.length→TF ρ l i g x bs.length []→ρ 32= .sl false 8 (Qr A)→ρ 33= .int .i64 A.length→ρ 34= .int .i64 pre.length→
   (∀ρ B,TB bs B (ts ++ (post.filter fun y=>decide (Qm y.t x.t=0)).map fun y=>⟨x.b,y.b,false⟩)→TF ρ l i g x bs.length []→R F.tb C ρ B K=X)→
  R F.tb (.loop F.f428l0) ρ B (Qk 0 (Qv F.tb C K))=X:=by
 intro post
 induction post with
 | nil=>
  intro pre ts B ρ hk hT htl h h32 h33 h34 hX
  simp only[List.append_nil]at hk
  rw[← hk]at h34
  obtain⟨h0,h1,h2,h8,h9,h10,h11,h12⟩:=h
  rw[Qc F.f428l0.eq_1]
  simp[h32,h33,h34]
  refine hX _ _ (by simpa using hT) ⟨?_,?_,?_,?_,?_,?_,?_,?_⟩ <;> simp[h0,h1,h2,h8,h9,h10,h11,h12]
 | cons y post IH=>
  intro pre ts B ρ hk hT htl h h32 h33 h34 hX
  have hg:=Z9 (Qp hk)
  have hll:A.length=pre.length+ (post.length+1):=by rw[hk];simp
  have hw1:IntKind.i64.wrap ((pre.length:Int)+1)=(pre.length:Int)+1:=Ql (by omega) (by omega)
  have hlt: (pre.length:Int) < (A.length:Int):=by omega
  obtain⟨hym,hyb⟩:=hAm y (by rw[hk];simp)
  have hs:=Dh y.t x.t B (by unfold big;omega) (by unfold big;omega)
  obtain⟨B',hc,hT'⟩:=PQ hT (by omega) x.b y.b (by unfold big;omega) (by unfold big;omega)
  have i1:=fun ρ=>IH (pre ++ [y]) ts B ρ (by rw[hk];simp) hT (by simp;omega)
  have i2:=fun ρ=>IH (pre ++ [y]) (ts ++ [⟨x.b,y.b,false⟩]) B' ρ (by rw[hk];simp) hT' (by simp;omega)
  obtain⟨h0,h1,h2,h8,h9,h10,h11,h12⟩:=h
  have e1:=Qj x.t
  have e2:=Qj x.b
  have e3:=Qj y.t
  have e4:=Qj y.b
  have er:QR y=[.int .i64 y.t.kind,.str y.t.name,.int .i64 y.t.sort,.sl false 4 (encTs y.t.kids),.int .i64 y.b.kind,.str y.b.name,.int .i64 y.b.sort,.sl false 4 (encTs y.b.kids)]:=rfl
  rw[er]at hg
  rw[e1,e3]at hs
  rw[e2,e4]at hc
  rw[e1]at h8
  rw[e2]at h9
  rw[Qc F.f428l0.eq_1]
  by_cases c:Qm y.t x.t=0
  ·simp[h32,h33,h34,hg,hlt,hw1,h8,h9,h12,hs,c,hc]
   refine i2 _ ⟨?_,?_,?_,?_,?_,?_,?_,?_⟩ ?_ ?_ ?_ (fun ρ B hT h=>hX ρ B (by simpa[c]using hT) h) <;> simp[h0,h1,h2,h8,h9,h10,h11,h12,h32,h33,e1,e2]
  ·simp[h32,h33,h34,hg,hlt,hw1,h8,h9,h12,hs,c]
   refine i1 _ ⟨?_,?_,?_,?_,?_,?_,?_,?_⟩ ?_ ?_ ?_ (fun ρ B hT h=>hX ρ B (by simpa[c]using hT) h) <;> simp[h0,h1,h2,h8,h9,h10,h11,h12,h32,h33,e1,e2]
theorem Qgx {l:List Rp} (hR:ROk l) (hl:l.length < 200000) {x:Rp} {i g:Nat} (hi:l[i]? =some x) (hv:thV x.t=0) (hx:x.b.mass < 1000000) (o:Bool) (bs:List (List AV)):
  call F.tb 428 [.sl o 8 (Qr l),.int .i64 i,.int .i64 g] bs=some (.tup [.sl false 9 (QK (Yy l x i (decide (g≤i)))),.sl false 4 (encTs (WY l x))],bs):=by
 obtain⟨_,_,hg,hma,hno⟩:=ZY hv
 have hil:=(List.getElem?_eq_some_iff.1 hi).1
 have hgt:=Z9 hi
 have hxm:x.t.mass < 1000000∧x.b.mass < 1000000:=⟨by omega,hx⟩
 have htk: (Qr l).take i=Qr (l.take i):=by simp[Qr]
 have hil2: (i:Int)≤(l.length:Int):=by omega
 have htl: (l.take i).length=i:=by simp;omega
 have hml:min i l.length=i:=by omega
 have hml2:min (i:Int) (l.length:Int)=(i:Int):=by omega
 have hloop:=fun ρ=>QkU (l:=l) (x:=x) (i:=i) (g:=g) (bs:=bs) (l.take i) (by omega) (fun y hy=>hR.2 y (List.mem_of_mem_take hy)) hxm F.f428r0 (Qx F.f428 bs)
  (some (.tup [.sl false 9 (QK (Yy l x i (decide (g≤i)))),.sl false 4 (encTs (WY l x))],bs)) (l.take i) [] [] _ ρ rfl (QkI bs) (by simp)
 have e1:=Qj x.t
 have e2:=Qj x.b
 have er:QR x=[.int .i64 x.t.kind,.str x.t.name,.int .i64 x.t.sort,.sl false 4 (encTs x.t.kids),.int .i64 x.b.kind,.str x.b.name,.int .i64 x.b.sort,.sl false 4 (encTs x.b.kids)]:=rfl
 rw[er]at hgt
 rw[Qb F.tb_428 _ _ rfl]
 simp[-getElem?_pos,Yi,F.f428B,F.f428C,hgt,htk,hil2,QI,hml,hml2,-List.map_take]
 refine hloop _ ⟨?_,?_,?_,?_,?_,?_,?_,?_⟩ ?_ ?_ ?_ (fun ρ B hT h=> ?_) <;> (try simp[e1,e2,encTs,htl,hml,hml2])
 have hfl: (tsA l x i).length≤i:=by
  unfold tsA
  rw[List.length_map]
  have:=List.length_filter_le (fun y:Rp=>decide (Qm y.t x.t=0)) (l.take i)
  omega
 exact QkV hR hv hx (ts:=tsA l x i) hT (by omega) ρ h
end Go.Am
