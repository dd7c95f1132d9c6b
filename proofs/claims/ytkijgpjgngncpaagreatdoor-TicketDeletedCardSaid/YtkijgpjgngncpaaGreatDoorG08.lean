/-
  Am14, Am15, Am16.
-/
import Derived.Test.YtkijgpjgngncpaaGreatDoorG07
import Derived.LoopN
set_option linter.all false
namespace Go.Am
def rdA (x:Qn):List Nat:=QC x.op ++ (match x.guard with
 | some (t,_)=>[t]
 | none=>[])
def wrA (x:Qn):List Nat:=ZR x.op ++ x.dst.toList
def GR (a b:List Nat):Bool:=a.all fun j=> !b.contains j
def G5 (x y:Qn):Bool:=GR (wrA x) (rdA y ++ wrA y) && GR (wrA y) (rdA x) &&
 (decide (QT x.op=0) || decide (QT y.op=0) || (decide (QT x.op=1) && decide (QT y.op=1)))
def WL (x:Qn) (τ s:St):St:={env:=fun j=>if j∈wrA x then s.env j else τ.env j,bs:=if QT x.op=2 then s.bs else τ.bs}
theorem R9 (ρ:Nat→AV) (d:Option Nat) (v:AV) (j:Nat):ZH ρ d v j=if j∈d.toList then v else ρ j:=by
 cases d with
 | none=>simp[ZH]
 | some d=>simp[ZH,upd]
theorem GY [Dr] {K:ZK} {op:AOp} {σ σ1:St} {v:AV} (h:Qe K op σ=some (v,σ1)):σ1=Qp op σ σ1:=by
 have:=NS (K:=K) (op:=op) (σ:=σ) (τ:=σ) (fun _ _=>rfl) (fun _=>rfl);rw[h]at this;simp only[Option.map_some,Option.some.injEq,Prod.mk.injEq,true_and]at this;exact this
theorem Th [Dr] {K:ZK} {x:Qn} {σ τ:St} (hr: ∀j∈rdA x,τ.env j=σ.env j) (hb:QT x.op≠0→τ.bs=σ.bs):
  Zj K x τ=(Zj K x σ).map (WL x τ):=by
 have he:=NS (K:=K) (op:=x.op) (σ:=σ) (τ:=τ) (fun j hj=>hr j (by simp[rdA,hj])) hb;have hbody: ((Qe K x.op τ).map fun p=>({p.2 with env:=ZH p.2.env x.dst p.1}:St))=((Qe K x.op σ).map fun p=>({p.2 with env:=ZH p.2.env x.dst p.1}:St)).map (WL x τ):=by
  rw[he];simp only[Option.map_map,Function.comp_def];congr 1;funext p;refine ZM (fun j=> ?_) ?_
  ·simp only[WL,Qp,wrA,List.mem_append,R9];by_cases h1:j∈x.dst.toList <;> by_cases h2:j∈ZR x.op <;> simp[h1,h2]
  ·simp[WL,Qp]
 unfold Zj;cases hg:x.guard with
 | none=>exact hbody
 | some tb=>
  obtain⟨t,b⟩:=tb;simp only;rw[hr t (by simp[rdA,hg])];have hskip: (some {τ with env:=ZH τ.env x.dst (.tup [])}:Option St)=(some ({σ with env:=ZH σ.env x.dst (.tup [])}:St)).map (WL x τ):=by
   simp only[Option.map_some,Option.some.injEq];refine ZM (fun j=> ?_) ?_
   ·simp only[WL,wrA,List.mem_append,R9];by_cases h1:j∈x.dst.toList
    ·simp[h1]
    ·by_cases h2:j∈ZR x.op
     ·simp only[h1,h2,if_false,or_false,if_true];exact hr j (by
       have: ∀op:AOp,∀j∈ZR op,j∈QC op:=by
        intro op j hj;cases op <;> simp only[ZR,QC,List.mem_cons,List.mem_append,List.not_mem_nil,or_false]at hj ⊢ <;> first | exact hj | exact .inl hj | exact .inr hj | (exact hj.elim)
       simp only[rdA,List.mem_append];exact .inl (this _ _ h2))
     ·simp[h1,h2]
   ·simp only[WL];by_cases h2:QT x.op=2
    ·simp only[h2,if_true];exact hb (by omega)
    ·simp[h2]
  split
  ·split
   ·exact hbody
   ·exact hskip
  ·exact hskip
  ·rfl
theorem Lc {a b:List Nat} (h:GR a b=true): ∀j∈a,j ∉ b:=by
 unfold GR at h;rw[List.all_eq_true]at h;intro j hj;simpa using h j hj
theorem FC [Dr] {K:ZK} {x y:Qn} {σ σ1 σ2:St} (hi:G5 x y=true) (h1:Zj K x σ=some σ1) (h2:Zj K y σ1=some σ2):
  ∃τ,Zj K y σ=some τ∧Zj K x τ=some σ2:=by
 unfold G5 at hi;simp only[Bool.and_eq_true,Bool.or_eq_true,decide_eq_true_eq]at hi;obtain⟨⟨hi1,hi2⟩,hi3⟩:=hi;have d1:=Lc hi1;have d2:=Lc hi2;have f1:=Th (K:=K) (x:=x) (σ:=σ) (τ:=σ) (fun _ _=>rfl) (fun _=>rfl);rw[h1]at f1;simp only[Option.map_some,Option.some.injEq]at f1;have f2:=Th (K:=K) (x:=y) (σ:=σ1) (τ:=σ1) (fun _ _=>rfl) (fun _=>rfl);rw[h2]at f2;simp only[Option.map_some,Option.some.injEq]at f2;have e1: ∀j,σ1.env j=if j∈wrA x then σ1.env j else σ.env j:=fun j=>congrArg (fun s:St=>s.env j) f1
 have b1:σ1.bs=if QT x.op=2 then σ1.bs else σ.bs:=congrArg St.bs f1
 have e2: ∀j,σ2.env j=if j∈wrA y then σ2.env j else σ1.env j:=fun j=>congrArg (fun s:St=>s.env j) f2
 have b2:σ2.bs=if QT y.op=2 then σ2.bs else σ1.bs:=congrArg St.bs f2
 have g1:=Th (K:=K) (x:=y) (σ:=σ1) (τ:=σ) (fun j hj=>by
  rw[e1 j,if_neg (fun h=>d1 j h (List.mem_append_left _ hj))]) (fun hne=>by
  rw[b1,if_neg (by omega)])
 rw[h2,Option.map_some]at g1;have g2:=Th (K:=K) (x:=x) (σ:=σ) (τ:=WL y σ σ2) (fun j hj=>by
  simp only[WL];rw[if_neg (fun h=>d2 j h hj)]) (fun hne=>by
  simp only[WL];rw[if_neg (by omega)])
 rw[h1,Option.map_some]at g2;refine⟨_,g1,?_⟩;rw[g2];congr 1;refine ZM (fun j=> ?_) ?_
 ·simp only[WL];by_cases hx:j∈wrA x
  ·rw[if_pos hx,e2 j,if_neg (fun h=>d1 j hx (List.mem_append_right _ h))]
  ·rw[if_neg hx];by_cases hy:j∈wrA y
   ·rw[if_pos hy]
   ·rw[if_neg hy,e2 j,if_neg hy,e1 j,if_neg hx]
 ·simp only[WL];by_cases hx:QT x.op=2
  ·rw[if_pos hx,b2,if_neg (by omega)]
  ·rw[if_neg hx];by_cases hy:QT y.op=2
   ·rw[if_pos hy]
   ·rw[if_neg hy,b2,if_neg hy,b1,if_neg hx]
def Fo (x y:Qn):Bool:=match x.op,y.op with
 | .stq _ _ _ q,.st q2 _ _=>decide (q=q2) && decide (x.dst=none) && decide (y.dst=none) && decide (x.guard=none) && decide (y.guard=none)
 | .st p sz _,.stp _ sz2 _ p2=>decide (p=p2) && decide (sz=sz2) && decide (x.dst=none) && decide (y.dst=none) && decide (x.guard=none) && decide (y.guard=none)
 | _,_=>false
theorem DS {cs vs ws:List AV} {o p:Nat} (h1:o+vs.length≤cs.length) (h2:p+ws.length≤cs.length) (hd:o+vs.length≤p∨p+ws.length≤o):put (put cs o vs) p ws=put (put cs p ws) o vs:=by
 have l1: (put cs o vs).length=cs.length:=by unfold put;rw[XG _ _ _ h1]
 have l2: (put cs p ws).length=cs.length:=by unfold put;rw[XG _ _ _ h2]
 apply List.ext_getElem?;intro k;have e1: (put (put cs o vs) p ws)[k]? =_:=YX (put cs o vs) p ws (by rw[l1];exact h2) k;have e2: (put (put cs p ws) o vs)[k]? =_:=YX (put cs p ws) o vs (by rw[l2];exact h1) k;have e3: (put cs o vs)[k]? =_:=YX cs o vs h1 k;have e4: (put cs p ws)[k]? =_:=YX cs p ws h2 k;rw[e1,e2,e3,e4];by_cases c1:k < o <;> by_cases c2:k < o+vs.length <;> by_cases c3:k < p <;> by_cases c4:k < p+ws.length <;> simp only[c1,c2,c3,c4,if_true,if_false] <;> omega
theorem Fp {K:ZK} {x y:Qn} {σ σ1 σ2:St} (hi:Fo x y=true) (h1:Zj K x σ=some σ1) (h2:Zj K y σ1=some σ2):
  ∃τ,Zj K y σ=some τ∧Zj K x τ=some σ2:=by
 unfold Fo at hi;split at hi
 ·rename_i p sz v q q2 sz2 v2 hx hy;simp only[Bool.and_eq_true,decide_eq_true_eq]at hi;obtain⟨⟨⟨⟨rfl,e1⟩,e2⟩,e3⟩,e4⟩:=hi;simp only[Zj,hx,e3,e1,Qe,ZH]at h1 ⊢;simp only[Zj,hy,e4,e2,Qe,ZH]at h2 ⊢;split at h1
  ·rename_i i o i2 o2 g1 g2;split at h1
   ·cases h1
   ·rename_i hne;cases hb:σ.bs[i]? with
    | none=>rw[hb]at h1;cases h1
    | some cs=>
     rw[hb]at h1;cases hv:cellsOf (val σ.env v)with
     | none=>rw[hv]at h1;cases h1
     | some vs=>
      rw[hv]at h1;simp only[Option.bind_some]at h1;split at h1
      ·rename_i hc;simp only[Option.map_some,Option.some.injEq]at h1;subst h1;simp only at h2;rw[g2]at h2 ⊢;simp only[List.getElem?_set_ne hne]at h2;simp only;cases hb2:σ.bs[i2]? with
       | none=>rw[hb2]at h2;cases h2
       | some cs2=>
        rw[hb2]at h2;simp only[Option.bind_some]at h2 ⊢;cases hv2:cellsOf (val σ.env v2)with
        | none=>rw[hv2]at h2;cases h2
        | some vs2=>
         rw[hv2]at h2;simp only[Option.bind_some]at h2 ⊢;split at h2
         ·rename_i hc2;simp only[Option.map_some,Option.some.injEq]at h2;subst h2;rw[if_pos hc2,Option.map_some];refine⟨_,rfl,?_⟩;simp only[g1,g2,hv,Option.bind_some,List.getElem?_set_ne (fun e=>hne e.symm),hb,if_neg hne,if_pos hc,Option.map_some];rw[List.set_comm _ _ hne]
         ·cases h2
      ·cases h1
  ·cases h1
 ·rename_i p sz v q sz2 v2 p2 hx hy;simp only[Bool.and_eq_true,decide_eq_true_eq]at hi;obtain⟨⟨⟨⟨⟨rfl,rfl⟩,e1⟩,e2⟩,e3⟩,e4⟩:=hi;simp only[Zj,hx,e3,e1,Qe,ZH]at h1 ⊢;simp only[Zj,hy,e4,e2,Qe,ZH]at h2 ⊢;split at h1
  ·rename_i i o g1;cases hb:σ.bs[i]? with
   | none=>rw[hb]at h1;cases h1
   | some cs=>
    rw[hb]at h1;cases hv:cellsOf (val σ.env v)with
    | none=>rw[hv]at h1;cases h1
    | some vs=>
     rw[hv]at h1;simp only[Option.bind_some]at h1;split at h1
     ·rename_i hc;simp only[Option.map_some,Option.some.injEq]at h1;subst h1;simp only at h2;rw[g1]at h2 ⊢;split at h2
      ·rename_i i2 o2 i3 o3 g2 g3;injection g3 with g3 g4
       subst g3;subst g4
       split at h2
       ·cases h2
       ·rename_i hne;simp only[g2,if_neg hne];have hil:i < σ.bs.length:=by
         rcases Nat.lt_or_ge i σ.bs.length with h | h
         ·exact h
         ·rw[List.getElem?_eq_none h]at hb;cases hb
        by_cases hii:i2=i
        ·subst hii;rw[List.getElem?_set,if_pos rfl,if_pos hil]at h2;simp only[Option.bind_some]at h2;rw[hb];simp only[Option.bind_some];cases hv2:cellsOf (val σ.env v2)with
         | none=>rw[hv2]at h2;cases h2
         | some vs2=>
          rw[hv2]at h2;simp only[Option.bind_some]at h2 ⊢;split at h2
          ·rename_i hc2;have hl1: (put cs o (vs.map AV.strip)).length=cs.length:=by unfold put;rw[XG _ _ _ (by simpa using hc.2.1)]
           rw[hl1]at hc2;simp only[Option.map_some,Option.some.injEq]at h2;subst h2;rw[if_pos hc2,Option.map_some];refine⟨_,rfl,?_⟩;have hl2: (put cs o2 (vs2.map AV.strip)).length=cs.length:=by unfold put;rw[XG _ _ _ (by simpa using hc2.2.1)]
           simp only[g1,List.getElem?_set,if_pos hil,Option.bind_some,hv,hl2];simp only[if_true,if_pos hil,Option.bind_some];rw[if_pos (by rw[hl2];exact hc),Option.map_some,List.set_set,List.set_set];have hcm:put (put cs o2 (vs2.map AV.strip)) o (vs.map AV.strip)=put (put cs o (vs.map AV.strip)) o2 (vs2.map AV.strip):=by
            refine DS (by simpa using hc2.2.1) (by simpa using hc.2.1) ?_;have q1:=hc.1;have q2:=hc2.1;simp only[List.length_map];by_cases c1:o2+vs2.length≤o
            ·exact .inl c1
            ·refine .inr ?_;rcases Nat.lt_or_ge o2 (o+vs.length)with h | h
             ·exact absurd ⟨rfl,by omega,by omega⟩ hne
             ·exact h
           rw[hcm]
          ·cases h2
        ·rw[List.getElem?_set_ne (fun e=>hii e.symm)]at h2;cases hb2:σ.bs[i2]? with
         | none=>rw[hb2]at h2;cases h2
         | some cs2=>
          rw[hb2]at h2;simp only[Option.bind_some]at h2 ⊢;cases hv2:cellsOf (val σ.env v2)with
          | none=>rw[hv2]at h2;cases h2
          | some vs2=>
           rw[hv2]at h2;simp only[Option.bind_some]at h2 ⊢;split at h2
           ·rename_i hc2;simp only[Option.map_some,Option.some.injEq]at h2;subst h2;rw[if_pos hc2,Option.map_some];refine⟨_,rfl,?_⟩;simp only[g1,List.getElem?_set_ne hii,hb,Option.bind_some,hv,if_pos hc,Option.map_some];rw[List.set_comm _ _ (fun e=>hii e.symm)]
           ·cases h2
      ·cases h2
     ·cases h1
  ·cases h1
 ·cases hi
def P2 (x y:Qn):Bool:=G5 x y || Fo x y
theorem I4 [Dr] {K:ZK} {x y:Qn} {σ σ1 σ2:St} (hi:P2 x y=true) (h1:Zj K x σ=some σ1) (h2:Zj K y σ1=some σ2):
  ∃τ,Zj K y σ=some τ∧Zj K x τ=some σ2:=by
 unfold P2 at hi;rw[Bool.or_eq_true]at hi;rcases hi with hi | hi
 ·exact FC hi h1 h2
 ·exact Fp hi h1 h2
theorem Oh [Dr] {K:ZK} (f:Nat→Qn) (i:Nat): ∀(L:List Nat) (σ σn:St),L.Pairwise (· < ·)→i∈L→(∀j∈L,j < i→P2 (f j) (f i)=true)→
  Zn K (L.map f) σ=some σn→∃σ',Zj K (f i) σ=some σ'∧Zn K ((L.erase i).map f) σ'=some σn
 | [],_,_,_,hi,_,_=>by simp at hi
 | j:: L,σ,σn,hp,hi,hd,hr=>by
  simp only[List.map_cons,Zn]at hr;cases h1:Zj K (f j) σ with
  | none=>rw[h1]at hr;cases hr
  | some σ1=>
   rw[h1,Option.bind_some]at hr;by_cases hji:j=i
   ·subst hji;exact⟨σ1,h1,by rw[List.erase_cons_head];exact hr⟩
   ·have hiL:i∈L:=by
     rcases List.mem_cons.1 hi with h | h
     ·exact absurd h.symm hji
     ·exact h
    have hlt:j < i:=(List.pairwise_cons.1 hp).1 i hiL;obtain⟨σ2,g1,g2⟩:=Oh f i L σ1 σn (List.pairwise_cons.1 hp).2 hiL (fun k hk=>hd k (List.mem_cons_of_mem _ hk)) hr;obtain⟨τ,k1,k2⟩:=I4 (hd j (by simp) hlt) h1 g1;refine⟨τ,k1,?_⟩;rw[List.erase_cons_tail (by simpa using hji),List.map_cons,Zn,k2,Option.bind_some];exact g2
structure En where
 j:Nat
 g:Option (Nat×Bool)
 q:Nat
 s:Nat
 off:Nat
def HN (x:Qn) (j:Nat):Option En:=match x.op,x.dst with
 | .fad s off,some q=>some ⟨j,x.guard,q,s,off⟩
 | _,_=>none
def entries (xs:List Qn):List En:=xs.zipIdx.filterMap fun p=>HN p.1 p.2
def AD (E:List En) (prec:Nat→Nat→Bool) (i:Nat) (g:Option (Nat×Bool)) (q s off:Nat):Bool:=
 E.any fun en=>prec i en.j && (decide (en.g=none) || decide (en.g=g)) && decide (en.q=q) && decide (en.s=s) && decide (en.off=off)
def Cs (E:List En) (prec:Nat→Nat→Bool) (xs:List Qn):Bool:=
 E.all fun en=>xs.zipIdx.all fun p=>(decide (p.2=en.j) || !decide (p.1.dst=some en.q)) && !decide (p.1.dst=some en.s) &&
  (match en.g with
   | some (t,_)=> !decide (p.1.dst=some t) || prec en.j p.2
   | none=>true)
def ML (cops:Array Oper) (x:Qn) (o:Oper):Bool:=match x.guard,o.guard with
 | none,none=>true
 | some (t,b),some (j,b2)=>decide (b=b2) && decide (((cops[j]?).bind (·.dst))=some t)
 | _,_=>false
def DD (P:Program) (num:Nat→Option Nat) (N:Nat) (E:List En) (prec:Nat→Nat→Bool) (cops:Array Oper) (i:Nat) (x:Qn) (o:Oper):Bool:=
 decide (x.dst=o.dst) && (match x.dst with
  | some d=>decide (d < N)
  | none=>true) && ML cops x o && As P num (AD E prec i x.guard) x.op o.op
def SL (P:Program) (num:Nat→Option Nat) (N:Nat) (prec:Nat→Nat→Bool) (cops:Array Oper) (xs:List Qn):Bool:=
 decide (xs.length=cops.size) && Cs (entries xs) prec xs && xs.zipIdx.all fun p=>match cops[p.2]? with
  | some o=>DD P num N (entries xs) prec cops p.2 p.1 o
  | none=>false
def gOK (σ:St):Option (Nat×Bool)→Prop
 | none=>True
 | some (t,b)=>σ.env t= .bool b
def RS (E:List En) (D:Nat→Prop) (σ:St) (a:Act):Prop:=∀en∈E,D en.j→gOK σ en.g→Vh a en.q en.s en.off
theorem OW {xs:List Qn} {en:En} (h:en∈entries xs): ∃x,xs[en.j]? =some x∧x.op= .fad en.s en.off∧x.dst=some en.q∧x.guard=en.g:=by
 unfold entries at h;rw[List.mem_filterMap]at h;obtain⟨⟨x,j⟩,h1,h2⟩:=h;have h3:xs[j]? =some x:=by
  rw[List.mem_iff_getElem?]at h1;obtain⟨k,hk⟩:=h1;rw[List.getElem?_zipIdx]at hk;cases hx:xs[k]? with
  | none=>rw[hx]at hk;cases hk
  | some y=>
   rw[hx]at hk;simp only[Option.map_some,Option.some.injEq,Prod.mk.injEq]at hk;obtain⟨rfl,rfl⟩:=hk;simpa using hx
 simp only[HN]at h2;split at h2
 ·rename_i s off q e1 e2;injection h2 with h2
  subst h2;exact⟨x,h3,e1,e2,rfl⟩
 ·cases h2
theorem Gn {xs:List Qn} {f:Qn×Nat→Bool} (h:xs.zipIdx.all f=true) {i:Nat} {x:Qn} (hx:xs[i]? =some x):f (x,i)=true:=by
 rw[List.all_eq_true]at h;refine h (x,i) (List.mem_of_getElem? (i:=i) ?_);rw[List.getElem?_zipIdx,hx];simp
section
variable {P:Program} {num:Nat→Option Nat} {β:List Blk} {w w':World} {m:Nat→Nat} {ν:Own} {N:Nat} {w0:World} {m0:Nat→Nat} {T:Nat→Prop} {β0:List Blk} {σ σ1 σ2:St} {a:Act}
 {next:Act→World→Prop} {Q:Exit→Act→World→Prop} {K:ZK} {v:AV} {xs:List Qn} {cops:Array Oper} {prec:Nat→Nat→Bool}
theorem Qck {op:AOp} (h:Qe K op σ=some (v,σ1)): ∀j∈ZR op,σ1.env j= .undef∨∃cs,σ1.env j= .bx cs∨σ1.env j= .tup cs:=by
 intro j hj;cases op <;> simp only[ZR,List.not_mem_nil,List.mem_cons,or_false]at hj
 case mvs n=>
  subst hj;simp only[Qe]at h;split at h
  ·injection h with h;injection h with _ h;subst h;exact .inl (by simp[upd])
  ·cases h
 case ldfm s off=>
  subst hj;simp only[Qe]at h;split at h
  ·rename_i cs hcs;cases hc:cs[off]? with
   | none=>rw[hc]at h;cases h
   | some c=>
    rw[hc]at h;simp only[Option.bind_some]at h;split at h
    ·injection h with h;injection h with _ h;subst h;exact .inr ⟨_,.inl (by simp[upd];rfl)⟩
    ·cases h
  ·cases h
 case stf s off sz x=>
  subst hj;simp only[Qe]at h;split at h
  ·rename_i cs hcs;cases hc:cellsOf (val σ.env x)with
   | none=>rw[hc]at h;cases h
   | some c=>
    rw[hc]at h;simp only[Option.bind_some]at h;split at h
    ·injection h with h;injection h with _ h;subst h;exact .inr ⟨_,.inl (by simp[upd];rfl)⟩
    ·cases h
  ·cases h
 case stn s off sz x zs=>
  subst hj;simp only[Qe]at h;split at h
  ·rename_i cs hcs;cases hc:cellsOf (val σ.env x)with
   | none=>rw[hc]at h;cases h
   | some c=>
    rw[hc]at h;simp only[Option.bind_some]at h;split at h
    ·injection h with h;injection h with _ h;subst h;exact .inr ⟨_,.inl (by simp[upd];rfl)⟩
    ·cases h
  ·cases h
 case stfm s off n=>
  simp only[Qe]at h;split at h
  ·rename_i cs hcs;split at h
   ·rename_i hne;injection h with h;injection h with _ h;subst h
    rcases hj with rfl | rfl
    ·exact .inr ⟨_,.inl (by simp[upd];rfl)⟩
    ·exact .inl (by simp only[upd];rw[if_neg (fun e=>hne.1 e.symm)];simp)
   ·cases h
  ·cases h
 case stm p n=>
  subst hj;simp only[Qe]at h;split at h
  ·rename_i i of hcs;cases hc:σ.bs[i]? with
   | none=>rw[hc]at h;cases h
   | some c=>
    rw[hc]at h;simp only[Option.bind_some]at h;split at h
    ·injection h with h;injection h with _ h;subst h;exact .inl (by simp[upd])
    ·cases h
  ·cases h
 case ldfz s off sz fo fz=>
  subst hj;simp only[Qe]at h;split at h
  ·rename_i cs hcs;split at h
   ·rename_i id o sz1 k hfo;split at h
    ·cases hb:σ.bs[id]? with
     | none=>rw[hb]at h;cases h
     | some c2=>
      rw[hb]at h;simp only[Option.bind_some]at h;split at h
      ·cases hr:ZV (cs.set fo (.sl false fz (QY c2 o fz k))) off sz true with
       | none=>rw[hr]at h;cases h
       | some v2=>
        rw[hr]at h;injection h with h;injection h with _ h;subst h
        exact .inr ⟨_,.inl (by simp[upd];rfl)⟩
      ·cases h
    ·split at h
     ·cases hr:ZV (cs.set fo (.sl false fz [])) off sz true with
      | none=>rw[hr]at h;cases h
      | some v2=>
       rw[hr]at h;injection h with h;injection h with _ h;subst h
       exact .inr ⟨cs,.inl hcs⟩
     ·cases h
   ·cases h
  ·cases h
 case extm n=>
  subst hj;simp only[Qe]at h;split at h
  ·injection h with h;injection h with _ h;subst h;exact .inr ⟨_,.inr (by simp[upd];rfl)⟩
  ·cases h
 case ensf x st n sz=>
  subst hj;simp only[Qe]at h;cases hf:Zb σ j sz with
  | none=>rw[hf]at h;cases h
  | some p=>
   rw[hf]at h;simp only[Option.bind_some]at h;have h1:=Lg h;simp only at h1;exact .inl (by rw[h1,TX hf];simp[upd])
 case mkstP n zs parts=>
  subst hj;simp only[Qe]at h;split at h
  ·split at h
   ·rename_i sz cs _ _;cases hf:X3 zs (parts.map fun p=>(p.1,p.2.1,val (upd σ.env j (.gs σ.bs.length 0 sz (cs.length / sz))) p.2.2))with
    | none=>rw[hf]at h;cases h
    | some c=>rw[hf]at h;injection h with h;injection h with _ h;subst h;exact .inl (by simp[upd])
   ·cases h
  ·cases h
 case frz n sz=>
  subst hj;simp only[Qe]at h;have:=TX h;simp only at this;exact .inl (by rw[this];simp[upd])
 case appz bytes sz n x=>
  subst hj;simp only[Qe]at h;split at h
  ·rename_i s _ _ _ hf _;have:=TX hf;simp only at this;split at h
   ·injection h with h;injection h with _ h;subst h
    exact .inl (by rw[this];simp[upd])
   ·cases h
  ·cases h
 case appg bytes sz s x=>
  cases s with
  | c v=>simp[rdO]at hj
  | t n=>
   simp only[rdO,List.mem_singleton]at hj;subst hj;simp only[Qe]at h;split at h
   ·rename_i e1 e2;simp only[Prod.mk.injEq]at e1;obtain⟨_,rfl⟩:=e1;split at h
    ·split at h
     ·cases h
     ·injection h with h;injection h with _ h;subst h;exact .inl (by simp[upd])
    ·cases h
   ·cases h
 case app bytes sz s x=>
  cases s with
  | c v=>simp[rdO]at hj
  | t n=>
   simp only[rdO,List.mem_singleton]at hj;subst hj;simp only[Qe]at h;split at h
   ·rename_i sz1 ys ρ o2 sz2 zs e1 e2;simp only[Prod.mk.injEq]at e1;obtain⟨e1,rfl⟩:=e1;split at h
    ·injection h with h;injection h with _ h;subst h;exact .inl (by simp[upd])
    ·cases h
   ·cases h
theorem Db [Dr] {op:AOp} (h:Qe K op σ=some (v,σ1)) {t:Nat} {b:Bool} (ht:σ1.env t= .bool b):σ.env t= .bool b:=by
 by_cases hj:t∈ZR op
 ·rcases Qck h t hj with h1 | ⟨cs,h1 | h1⟩ <;> rw[h1]at ht <;> cases ht
 ·have:=congrArg (fun s:St=>s.env t) (GY h);simp only[Qp]at this;rw[if_neg hj]at this;rw[← this];exact ht
theorem MZ {q s off:Nat} {d:Option Nat} {u:Value} (h:Vh a q s off) (h1:d≠some q) (h2:d≠some s):Vh (a.put d u) q s off:=by
 obtain⟨b,p1,p2⟩:=h;cases d with
 | none=>exact⟨b,p1,p2⟩
 | some d=>
  have e1:d≠q:=fun e=>h1 (by rw[e]);have e2:d≠s:=fun e=>h2 (by rw[e]);refine⟨b,?_,?_⟩
  ·simp only[Act.put,Array.getD_eq_getD_getElem?]at p1 ⊢;rw[Array.getElem?_setIfInBounds_ne e2];exact p1
  ·simp only[Act.put,Array.getD_eq_getD_getElem?]at p2 ⊢;rw[Array.getElem?_setIfInBounds_ne e1];exact p2
theorem CB [Dr] {x:Qn} {o:Oper} (hI:Inv num N w0 m0 T β0 σ a w m β ν) (hg:ML cops x o=true):
  (x.guard=none→Region.wanted o (yielded cops a.tmps)=true)∧(∀t b c,x.guard=some (t,b)→σ.env t= .bool c→Region.wanted o (yielded cops a.tmps)=decide (c=b))∧
   ∀t b,x.guard=some (t,b)→σ.env t= .tup []→Region.wanted o (yielded cops a.tmps)=false:=by
 unfold ML at hg;split at hg
 ·rename_i e1 e2;refine⟨fun _=>by simp[Region.wanted,e2],fun t b c h=>(by rw[e1]at h;cases h),fun t b h=>(by rw[e1]at h;cases h)⟩
 ·rename_i t b j b2 e1 e2;simp only[Bool.and_eq_true,decide_eq_true_eq]at hg;obtain⟨rfl,hg⟩:=hg;refine⟨(fun h=>by rw[e1]at h;cases h),fun t2 b3 c h hc=> ?_,fun t2 b3 h hc=> ?_⟩
  ·rw[e1]at h;injection h with h
   injection h with h3 h4
   subst h3 h4;obtain⟨_,h5⟩:=hI.at_ (n:=t) (by rw[hc];simp);have h6:=hI.slots t _ h5;rw[hc]at h6;obtain⟨h6,_⟩:=h6;simp only[Qc]at h6;simp only[Region.wanted,e2,yielded,hg,Option.bind_some,h5,h6];cases c <;> cases b <;> rfl
  ·rw[e1]at h;injection h with h
   injection h with h3 h4
   subst h3 h4;obtain⟨_,h5⟩:=hI.at_ (n:=t) (by rw[hc];simp);have h6:=hI.slots t _ h5;rw[hc]at h6;obtain⟨h6,_⟩:=h6;simp only[Qc]at h6;obtain⟨us,h6,_⟩:=h6;simp only[Region.wanted,e2,yielded,hg,Option.bind_some,h5,h6];cases b <;> rfl
 ·cases hg
theorem OX [Dr] {Γ:Yi} (hI:Inv num N w0 m0 T β0 σ a w m β ν) (hE:XJ P num) (hK:KOk P num Γ K) (hG:Γ.G w0) (hGb:Γ.Gb≤w0.heap.size) (hT: ∀b,T b→Γ.Gb≤b)
  {D:Nat→Prop} {i:Nat} {x:Qn} (hall:SL P num N prec cops xs=true) (hx:xs[i]? =some x) (hD: ¬D i) (hpre: ∀k,prec i k=true→D k) (hdown: ∀j k,D j→prec j k=true→D k)
  (hRS:RS (entries xs) D σ a) (hr:Zj K x σ=some σ2)
  (h: ∀a' w' m' β' ν',Inv num N w0 m0 T β0 σ2 a' w' m' β' ν'→RS (entries xs) (fun j=>D j∨j=i) σ2 a'→next a' w'):wpOp P cops Q i next a w:=by
 unfold SL at hall;simp only[Bool.and_eq_true,decide_eq_true_eq]at hall;obtain⟨⟨hlen,hst⟩,hall⟩:=hall;have hox:=Gn hall hx;simp only at hox;split at hox
 ·rename_i o ho;unfold DD at hox;simp only[Bool.and_eq_true,decide_eq_true_eq]at hox;obtain⟨⟨⟨hdst,hdN⟩,hgd⟩,hop⟩:=hox;have hstab: ∀en∈entries xs,(i=en.j∨x.dst≠some en.q)∧x.dst≠some en.s∧∀t b,en.g=some (t,b)→x.dst=some t→prec en.j i=true:=fun en hen=>by
   unfold Cs at hst;rw[List.all_eq_true]at hst;have:=Gn (hst en hen) hx;simp only[Bool.and_eq_true,Bool.or_eq_true,decide_eq_true_eq,Bool.not_eq_true',decide_eq_false_iff_not]at this;refine⟨this.1.1,this.1.2,fun t b hg hd=> ?_⟩;have h2:=this.2;rw[hg]at h2;simp only[Bool.or_eq_true,Bool.not_eq_true',decide_eq_false_iff_not]at h2;exact h2.resolve_left (fun hn=>hn hd)
  obtain⟨hw1,hw2,hw3⟩:=CB hI hgd;have run: (∀t b,x.guard=some (t,b)→σ.env t= .bool b)→Region.wanted o (yielded cops a.tmps)=true→((Qe K x.op σ).map fun p=>({p.2 with env:=ZH p.2.env x.dst p.1}:St))=some σ2→wpOp P cops Q i next a w:=by
   intro hgu hwant hex;cases he:Qe K x.op σ with
   | none=>rw[he]at hex;cases hex
   | some p=>
    obtain⟨v,σ1⟩:=p;rw[he]at hex;simp only[Option.map_some,Option.some.injEq]at hex;subst hex;unfold wpOp;simp only[ho,hwant,if_true];refine .inl (Au hI hE hK hG hGb hT (pt:=AD (entries xs) prec i x.guard) (fun q s off hp=> ?_) hop he fun u w' m' β' ν' k1 k2 k3=> ?_)
    ·unfold AD at hp;rw[List.any_eq_true]at hp;obtain⟨en,hen,hp⟩:=hp;simp only[Bool.and_eq_true,Bool.or_eq_true,decide_eq_true_eq]at hp;obtain⟨⟨⟨⟨p1,p2⟩,rfl⟩,rfl⟩,rfl⟩:=hp;refine hRS en hen (hpre _ p1) ?_;rcases p2 with p2 | p2
     ·rw[p2];exact trivial
     ·rw[p2];cases hxg:x.guard with
      | none=>exact trivial
      | some tb=>obtain⟨t,b⟩:=tb;exact hgu t b hxg
    ·rw[← hdst];have hRS2:RS (entries xs) (fun j=>D j∨j=i) {σ1 with env:=ZH σ1.env x.dst v} (a.put x.dst u):=by
      intro en hen hDj hgk;obtain⟨st1,st2,st3⟩:=hstab en hen;by_cases hji:en.j=i
      ·obtain⟨y,y1,y2,y3,_⟩:=OW hen;rw[hji,hx]at y1;injection y1 with y1
       subst y1;obtain⟨b,b1,b2⟩:=k3 _ _ y2;have hne:en.q≠en.s:=fun e=>st2 (by rw[y3,e]);rw[y3];rw[y3]at hdN;have hqN:en.q < N:=by simpa using hdN
       refine⟨b,?_,?_⟩
       ·simp only[Act.put,Array.getD_eq_getD_getElem?]at b1 ⊢;rw[Array.getElem?_setIfInBounds_ne hne];exact b1
       ·simp only[Act.put,Array.getD_eq_getD_getElem?];rw[Array.getElem?_setIfInBounds_self_of_lt (by rw[hI.size];exact hqN),b2];rfl
      ·have hDj2:D en.j:=hDj.resolve_right hji;refine MZ (hRS en hen hDj2 ?_) (st1.resolve_left (fun e=>hji e.symm)) st2;cases heg:en.g with
       | none=>exact trivial
       | some tb=>
        obtain⟨t,b⟩:=tb;rw[heg]at hgk;simp only[gOK,R9]at hgk ⊢;split at hgk
        ·rename_i hd;exact absurd (hdown en.j i hDj2 (st3 t b heg (by simpa using hd))) hD
        ·exact Db he hgk
     cases hxd:x.dst with
     | none=>
      rw[hxd]at hRS2 h;exact h _ w' m' β' ν' k1 hRS2
     | some d=>
      rw[hxd]at hRS2 hdN h;exact h _ w' m' β' _ (k1.put k2 d (by simpa using hdN)) hRS2
  unfold Zj at hr;cases hxg:x.guard with
  | none=>
   rw[hxg]at hr;exact run (fun t b h=>by rw[hxg]at h;cases h) (hw1 hxg) hr
  | some tb=>
   obtain⟨t,b⟩:=tb;rw[hxg]at hr;simp only at hr;have skip:σ.env t≠ .bool b→Region.wanted o (yielded cops a.tmps)=false→{σ with env:=ZH σ.env x.dst (.tup [])}=σ2→wpOp P cops Q i next a w:=by
    intro hc hwant hr;subst hr;unfold wpOp;simp only[ho];rw[hwant,if_neg (by simp),← hdst];have hRS2:RS (entries xs) (fun j=>D j∨j=i) {σ with env:=ZH σ.env x.dst (.tup [])} (a.put x.dst undef):=by
     intro en hen hDj hgk;obtain⟨st1,st2,st3⟩:=hstab en hen;have hback: ∀t2 b2,en.g=some (t2,b2)→D en.j∨en.j=i→σ.env t2= .bool b2:=fun t2 b2 heg hDj=>by
      rw[heg]at hgk;simp only[gOK,R9]at hgk;split at hgk
      ·cases hgk
      ·exact hgk
     by_cases hji:en.j=i
     ·exfalso;obtain⟨y,y1,y2,y3,y4⟩:=OW hen;rw[hji,hx]at y1;injection y1 with y1
      subst y1;exact hc (hback t b (y4.symm.trans hxg) (.inr hji))
     ·have hDj2:D en.j:=hDj.resolve_right hji;refine MZ (hRS en hen hDj2 ?_) (st1.resolve_left (fun e=>hji e.symm)) st2;cases heg:en.g with
      | none=>exact trivial
      | some tb2=>
       obtain⟨t2,b2⟩:=tb2;exact hback t2 b2 heg (.inl hDj2)
    cases hxd:x.dst with
    | none=>
     rw[hxd]at hRS2 h;exact h _ w m β ν hI hRS2
    | some d=>
     rw[hxd]at hRS2 hdN h;exact h _ w m β _ (hI.put (v:= .tup []) (u:=undef) ((QE rfl).2 ⟨by simp only[Qc];exact⟨#[],rfl,rfl,by simp only[RepT]⟩,trivial⟩) d (by simpa using hdN)) hRS2
   split at hr
   ·rename_i c hc;have hwant:=hw2 t b c hxg hc;split at hr
    ·rename_i hcb;subst hcb;exact run (fun t2 b2 h=>by rw[hxg]at h;injection h with h;injection h with h1 h2;subst h1 h2;exact hc) (by rw[hwant];simp) hr
    ·rename_i hcb;injection hr with hr
     exact skip (by rw[hc];intro e;injection e with e;exact hcb e) (by rw[hwant];simpa using hcb) hr
   ·rename_i hc;injection hr with hr
    exact skip (by rw[hc];intro e;cases e) (hw3 t b hxg hc) hr
   ·cases hr
 ·cases hox
theorem Mh [Dr] {Γ:Yi} (hE:XJ P num) (hK:KOk P num Γ K) (hG:Γ.G w0) (hGb:Γ.Gb≤w0.heap.size) (hT: ∀b,T b→Γ.Gb≤b) {σn:St}
  (hall:SL P num N (fun i k=>decide (k < i)) cops xs=true) (hQ: ∀a' w' m' β' ν',Inv num N w0 m0 T β0 σn a' w' m' β' ν'→Q .normal a' w'):
  ∀(n k:Nat) (σ:St) (a:Act) (w:World) (m:Nat→Nat) (β:List Blk) (ν:Own),k+n=xs.length→Zn K (xs.drop k) σ=some σn→Inv num N w0 m0 T β0 σ a w m β ν→RS (entries xs) (fun j=>j < k) σ a→
   wpOps P cops Q (List.range' k n) a w
 | 0,k,σ,a,w,m,β,ν,hk,hr,hI,_=>by
  rw[List.drop_eq_nil_of_le (by omega)]at hr;injection hr with hr
  subst hr;exact hQ a w m β ν hI
 | n+1,k,σ,a,w,m,β,ν,hk,hr,hI,hRS=>by
  have hkl:k < xs.length:=by omega
  rw[List.drop_eq_getElem_cons hkl]at hr;simp only[Zn]at hr;cases h1:Zj K xs[k] σ with
  | none=>rw[h1]at hr;cases hr
  | some σ1=>
   rw[h1,Option.bind_some]at hr;rw[List.range'_succ,wpOps_cons];refine OX hI hE hK hG hGb hT hall (List.getElem?_eq_getElem hkl) (D:=fun j=>j < k) (by omega) (fun j hj=>by simpa using hj) (fun i j hi hj=>Nat.lt_trans (show j < i by simpa using hj) hi) hRS h1 fun a' w' m' β' ν' k1 k2=> ?_;exact Mh hE hK hG hGb hT hall hQ n (k+1) σ1 a' w' m' β' ν' (by omega) hr k1 (fun en hen hj hg=>k2 en hen (by omega) hg)
end
end Go.Am
namespace Go.Am
def Vs (cops:Array Oper) (i k:Nat):Bool:=match cops[i]? with
 | some o=>o.after.any fun e=>Region.binds .any e && decide (e.on=k)
 | none=>false
def Mg (cops:Array Oper):Nat→Nat→Nat→Bool
 | 0,_,_=>false
 | f+1,i,j=>Vs cops i j || (match cops[i]? with
  | some o=>o.after.any fun e=>Region.binds .any e && decide (j < e.on) && Mg cops f e.on j
  | none=>false)
def PP (cops:Array Oper):Bool:=(List.range cops.size).all fun i=>match cops[i]? with
 | some o=>o.after.all fun e=> !Region.binds .any e || decide (e.on < i)
 | none=>true
def R4 (xs:List Qn) (i:Nat):Qn:=xs.getD i ⟨none,.alloc [],none⟩
def Mw (cops:Array Oper) (xs:List Qn):Bool:=(List.range xs.length).all fun i=>(List.range i).all fun j=>P2 (R4 xs j) (R4 xs i) || Mg cops xs.length i j
def Kg (P:Program) (num:Nat→Option Nat) (N:Nat) (draw:Bool) (cops:Array Oper) (xs:List Qn):Bool:=
 if draw then SL P num N (Vs cops) cops xs && PP cops && Mw cops xs else SL P num N (fun i k=>decide (k < i)) cops xs
theorem JW {cops:Array Oper} {L:Nat→Prop} (hdown: ∀j k,L j→Vs cops j k=true→L k): ∀(f i j:Nat),(∀k,Vs cops i k=true→L k)→Mg cops f i j=true→L j
 | 0,_,_,_,h=>by simp[Mg]at h
 | f+1,i,j,hi,h=>by
  simp only[Mg,Bool.or_eq_true]at h;rcases h with h | h
  ·exact hi j h
  ·split at h
   ·rename_i o ho;rw[Array.any_eq_true']at h;obtain⟨e,he,h⟩:=h;simp only[Bool.and_eq_true,decide_eq_true_eq]at h;have hL:L e.on:=hi e.on (by
     unfold Vs;rw[ho];simp only;rw[Array.any_eq_true'];exact⟨e,he,by simp[h.1.1]⟩)
    exact JW hdown f e.on j (fun k hk=>hdown _ k hL hk) h.2
   ·cases h
def rem (n:Nat) (listed:Array Bool):List Nat:=(List.range n).filter fun i=> !listed.getD i true
theorem Rq {n i:Nat} {listed:Array Bool}:i∈rem n listed↔i < n∧listed.getD i true=false:=by
 unfold rem;rw[List.mem_filter,List.mem_range];simp
theorem LC {n i:Nat} {listed:Array Bool} (hn:listed.size=n) (hi:i∈rem n listed):rem n (listed.setIfInBounds i true)=(rem n listed).erase i:=by
 have hnd: (rem n listed).Nodup:=List.Pairwise.filter _ List.nodup_range;rw[List.Nodup.erase_eq_filter hnd];unfold rem;rw[List.filter_filter];apply List.filter_congr;intro x hx;rw[List.mem_range]at hx;by_cases hxi:x=i
 ·subst hxi;simp[hn,hx]
 ·rw[getD_set_ne true (fun e=>hxi e.symm)];simp[hxi]
section
variable {P:Program} {num:Nat→Option Nat} {β:List Blk} {w w':World} {m:Nat→Nat} {ν:Own} {N:Nat} {w0:World} {m0:Nat→Nat} {T:Nat→Prop} {β0:List Blk} {σ σ1 σ2:St} {a:Act}
 {next:Act→World→Prop} {Q:Exit→Act→World→Prop} {K:ZK} {v:AV} {xs:List Qn} {cops:Array Oper}
theorem H1 {i:Nat} (h:i < xs.length):xs[i]? =some (R4 xs i):=by
 unfold R4;rw[List.getElem?_eq_getElem h];simp[h]
theorem Oc {prec:Nat→Nat→Bool} (h:SL P num N prec cops xs=true):xs.length=cops.size:=by
 unfold SL at h;simp only[Bool.and_eq_true,decide_eq_true_eq]at h;exact h.1.1
theorem Fx [Dr] {Γ:Yi} (hE:XJ P num) (hK:KOk P num Γ K) (hG:Γ.G w0) (hGb:Γ.Gb≤w0.heap.size) (hT: ∀b,T b→Γ.Gb≤b) {σn:St}
  (hall:SL P num N (Vs cops) cops xs=true) (hed:PP cops=true) (hap:Mw cops xs=true) (hQ: ∀a' w' m' β' ν',Inv num N w0 m0 T β0 σn a' w' m' β' ν'→Q .normal a' w'):
  ∀(fuel:Nat) (listed:Array Bool) (σ:St) (a:Act) (w:World) (m:Nat→Nat) (β:List Blk) (ν:Own),listed.size=xs.length→(rem xs.length listed).length=fuel→
   Zn K ((rem xs.length listed).map (R4 xs)) σ=some σn→(∀j k,listed.getD j false=true→Vs cops j k=true→listed.getD k false=true)→
   Inv num N w0 m0 T β0 σ a w m β ν→RS (entries xs) (fun j=>listed.getD j false=true) σ a→wpAny P .any cops Q fuel listed a w:=by
 intro fuel;have hlen:=Oc hall;have hdownE: ∀i k,Vs cops i k=true→k < i:=fun i k h=>by
  unfold Vs at h;split at h
  ·rename_i o ho;rw[Array.any_eq_true']at h;obtain⟨e,he,h⟩:=h;simp only[Bool.and_eq_true,decide_eq_true_eq]at h;have hi:i < cops.size:=(Array.getElem?_eq_some_iff.1 ho).1;unfold PP at hed;rw[List.all_eq_true]at hed;have:=hed i (List.mem_range.2 hi);rw[ho]at this;simp only[Array.all_eq_true_iff_forall_mem,Bool.or_eq_true,Bool.not_eq_true',decide_eq_true_eq]at this;rcases this e he with h1 | h1
   ·rw[h.1]at h1;cases h1
   ·omega
  ·cases h
 have hDor: ∀(listed:Array Bool) (j:Nat),listed.size=xs.length→j < xs.length→listed.getD j true=false∨listed.getD j false=true:=fun listed j h1 h2=>by
  rw[Array.getD_eq_getD_getElem?,Array.getD_eq_getD_getElem?,Array.getElem?_eq_getElem (by omega)];cases listed[j] <;> simp
 induction fuel with
 | zero=>
  intro listed σ a w m β ν hs hl hr _ hI _;have h0:rem xs.length listed=[]:=List.eq_nil_of_length_eq_zero hl;rw[h0]at hr;injection hr with hr
  subst hr;refine⟨?_,hQ a w m β ν hI⟩;cases hrd:Region.ready .any cops listed with
  | nil=>rfl
  | cons i is=>
   exfalso;have hi:i∈Region.ready .any cops listed:=by rw[hrd];simp
   obtain⟨h1,o,h2,_⟩:=mem_ready.1 hi;have:i∈rem xs.length listed:=Rq.2 ⟨by rw[hlen];exact(Array.getElem?_eq_some_iff.1 h2).1,h1⟩;rw[h0]at this;cases this
 | succ fuel ih=>
  intro listed σ a w m β ν hs hl hr hdown hI hRS;refine⟨fun h0=> ?_,fun i hi=> ?_⟩
  ·exfalso;cases hrem:rem xs.length listed with
   | nil=>rw[hrem]at hl;simp at hl
   | cons i is=>
    have hi:i∈rem xs.length listed:=by rw[hrem];simp
    obtain⟨h1,h2⟩:=Rq.1 hi;have hsort: (rem xs.length listed).Pairwise (· < ·):=List.Pairwise.filter _ List.pairwise_lt_range;rw[hrem]at hsort;have hmin:=(List.pairwise_cons.1 hsort).1;have hready:i∈Region.ready .any cops listed:=by
     refine mem_ready.2 ⟨h2,cops[i]'(by omega),Array.getElem?_eq_getElem _,fun e he hb=> ?_⟩;have hp:Vs cops i e.on=true:=by
      unfold Vs;rw[Array.getElem?_eq_getElem (by omega)];simp only;rw[Array.any_eq_true'];exact⟨e,he,by simp[hb]⟩
     have hlt:=hdownE i e.on hp;rcases hDor listed e.on hs (by omega)with h3 | h3
     ·have:e.on∈rem xs.length listed:=Rq.2 ⟨by omega,h3⟩;rw[hrem]at this;rcases List.mem_cons.1 this with h4 | h4
      ·omega
      ·have:=hmin _ h4;omega
     ·exact h3
    rw[h0]at hready;cases hready
  ·obtain⟨h1,o,h2,h3⟩:=mem_ready.1 hi;have hin:i < xs.length:=by rw[hlen];exact(Array.getElem?_eq_some_iff.1 h2).1
   have hir:i∈rem xs.length listed:=Rq.2 ⟨hin,h1⟩;have hpre: ∀k,Vs cops i k=true→listed.getD k false=true:=fun k hk=>by
    unfold Vs at hk;rw[h2]at hk;simp only at hk;rw[Array.any_eq_true']at hk;obtain⟨e,he,hk⟩:=hk;simp only[Bool.and_eq_true,decide_eq_true_eq]at hk;rw[← hk.2];exact h3 e he hk.1
   have hsort: (rem xs.length listed).Pairwise (· < ·):=List.Pairwise.filter _ List.pairwise_lt_range;have hind: ∀j∈rem xs.length listed,j < i→P2 (R4 xs j) (R4 xs i)=true:=fun j hj hji=>by
    unfold Mw at hap;rw[List.all_eq_true]at hap;have:=hap i (List.mem_range.2 hin);rw[List.all_eq_true]at this;have:=this j (List.mem_range.2 hji);simp only[Bool.or_eq_true]at this;rcases this with h | h
    ·exact h
    ·have hL:=JW (L:=fun j=>listed.getD j false=true) hdown _ i j hpre h;obtain⟨k1,k2⟩:=Rq.1 hj;rw[Array.getD_eq_getD_getElem?,Array.getElem?_eq_getElem (by omega)]at hL k2;simp only[Option.getD_some]at hL k2;rw[hL]at k2;cases k2
   obtain⟨σ',g1,g2⟩:=Oh (R4 xs) i _ σ σn hsort hir hind hr;have hnD: ¬listed.getD i false=true:=fun h=>by
    rw[Array.getD_eq_getD_getElem?,Array.getElem?_eq_getElem (by omega)]at h h1;simp only[Option.getD_some]at h h1;rw[h]at h1;cases h1
   refine OX hI hE hK hG hGb hT hall (H1 hin) hnD hpre hdown hRS g1 fun a' w' m' β' ν' k1 k2=> ?_;have hset: ∀j,(listed.setIfInBounds i true).getD j false=true→listed.getD j false=true∨j=i:=fun j hj=>by
    by_cases e:j=i
    ·exact .inr e
    ·rw[getD_set_ne false (fun h=>e h.symm)]at hj;exact .inl hj
   have hself: (listed.setIfInBounds i true).getD i false=true:=by simp[hs,hin]
   refine ih (listed.setIfInBounds i true) σ' a' w' m' β' ν' (by simpa using hs) ?_ ?_ (fun j k hj hk=> ?_) k1 (fun en hen hj hg=>k2 en hen (hset _ hj) hg)
   ·rw[LC hs hir,List.length_erase_of_mem hir,hl];rfl
   ·rw[LC hs hir];exact g2
   ·rcases hset j hj with h | h
    ·exact getD_set_true (hdown j k h hk)
    ·rw[h]at hk;exact getD_set_true (hpre k hk)
theorem Ai [Dr]: (List.range xs.length).map (R4 xs)=xs:=by
 apply List.ext_getElem?;intro i;rw[List.getElem?_map];by_cases hi:i < xs.length
 ·rw[List.getElem?_range hi,H1 hi];rfl
 ·rw[List.getElem?_eq_none (by simp;omega),List.getElem?_eq_none (by omega)];rfl
theorem JX [Dr] {Γ:Yi} (hmix:P.follows .mixedOrders=true) (hE:XJ P num) (hK:KOk P num Γ K) (hG:Γ.G w0) (hGb:Γ.Gb≤w0.heap.size) (hT: ∀b,T b→Γ.Gb≤b) {σn:St} {id:Nat} {dr:Bool}
  (hok:Kg P num N dr cops xs=true) (hI:Inv num N w0 m0 T β0 σ a w m β ν) (hr:Zn K xs σ=some σn) (hQ: ∀a' w' m' β' ν',Inv num N w0 m0 T β0 σn a' w' m' β' ν'→Q .normal a' w'):
  (Code.region id cops dr).wp P Q a w:=by
 cases dr
 ·simp only[Kg,Bool.false_eq_true,if_false]at hok;refine wp_region ?_;rw[List.range_eq_range',← Oc hok];exact Mh hE hK hG hGb hT hok hQ xs.length 0 σ a w m β ν (by omega) (by simpa using hr) hI (fun en _ hj _=>absurd hj (by omega))
 ·simp only[Kg,if_true,Bool.and_eq_true]at hok;obtain⟨⟨h1,h2⟩,h3⟩:=hok;refine wp_region_any hmix ?_;have hlen:=Oc h1;have hrem:rem xs.length (Array.replicate cops.size false)=List.range xs.length:=by
   unfold rem;rw[List.filter_eq_self];intro x hx;rw[List.mem_range]at hx;simp[← hlen,hx]
  have hno: ∀j,(Array.replicate cops.size false).getD j false=false:=fun j=>by
   rw[Array.getD_eq_getD_getElem?];by_cases h:j < cops.size <;> simp[h]
  rw[← hlen];have hno': ∀j,(Array.replicate xs.length false).getD j false=false:=by rw[hlen];exact hno
  rw[← hlen]at hrem;exact Fx hE hK hG hGb hT h1 h2 h3 hQ xs.length _ σ a w.drew m β ν (by simp) (by rw[hrem];simp) (by rw[hrem,Ai];exact hr)
   (fun j k hj _=>by rw[hno']at hj;cases hj) hI.drew (fun en _ hj _=>by have h0:=hno' en.j;simp only[h0]at hj;cases hj)
def Yh (P:Program) (num:Nat→Option Nat) (N:Nat):AC→Code→Bool
 | .bad,_=>true
 | .skip,.skip=>true
 | .reg dr xs,.region _ ops dr2=>decide (dr=dr2) && Kg P num N dr ops xs
 | .seq a b,.seq c d=>Yh P num N a c && Yh P num N b d
 | .cond c a b,.cond c2 a2 b2=>okO num c c2 && Yh P num N a a2 && Yh P num N b b2
 | .block id c,.block id2 c2=>decide (id=id2) && Yh P num N c c2
 | .loop c,.loop c2=>Yh P num N c c2
 | .exit id,.exit id2=>decide (id=id2)
 | .ret,.ret=>true
 | _,_=>false
def Ex.toExit:Ex→Exit
 | .normal=> .normal
 | .exit i=> .exit i
 | .ret=> .ret
theorem X1 [Dr] {Γ:Yi} (hmix:P.follows .mixedOrders=true) (hE:XJ P num) (hK:KOk P num Γ K) (hG:Γ.G w0) (hGb:Γ.Gb≤w0.heap.size) (hT: ∀b,T b→Γ.Gb≤b) {n:Nat}:
  ∀(c:AC) (cc:Code),Yh P num N c cc=true→∀(σ:St) (a:Act) (w:World) (m:Nat→Nat) (β:List Blk) (ν:Own) (ex:Ex) (σ':St) (Q:Exit→Act→World→Prop),
   Zg K n c σ=some (ex,σ')→Inv num N w0 m0 T β0 σ a w m β ν→(∀a' w' m' β' ν',Inv num N w0 m0 T β0 σ' a' w' m' β' ν'→Q ex.toExit a' w')→cc.wp P Q a w:=by
 intro c
 induction c with
 | bad=>
  intro cc hok σ a w m β ν ex σ' Q hr;simp[Zg]at hr
 | skip=>
  intro cc hok σ a w m β ν ex σ' Q hr hI hQ;cases cc <;> simp[Yh]at hok;simp only[Zg,Option.some.injEq,Prod.mk.injEq]at hr;obtain⟨rfl,rfl⟩:=hr;exact wp_skip (hQ a w m β ν hI)
 | reg dr xs=>
  intro cc hok σ a w m β ν ex σ' Q hr hI hQ;cases cc <;> simp only[Yh,Bool.and_eq_true,decide_eq_true_eq]at hok <;> try (cases hok;done)
  obtain⟨rfl,hok⟩:=hok;simp only[Zg]at hr;cases h1:Zn K xs σ with
  | none=>rw[h1]at hr;cases hr
  | some s=>
   rw[h1]at hr;simp only[Option.map_some,Option.some.injEq,Prod.mk.injEq]at hr;obtain⟨rfl,rfl⟩:=hr;exact JX hmix hE hK hG hGb hT hok hI h1 hQ
 | seq x y ihx ihy=>
  intro cc hok σ a w m β ν ex σ' Q hr hI hQ;cases cc <;> simp only[Yh,Bool.and_eq_true]at hok <;> try (cases hok;done)
  refine wp_seq ?_;simp only[Zg]at hr;split at hr
  ·rename_i s h1;refine ihx _ hok.1 σ a w m β ν .normal s _ h1 hI fun a' w' m' β' ν' k=> ?_;exact ihy _ hok.2 s a' w' m' β' ν' ex σ' Q hr k hQ
  ·rename_i hne;refine ihx _ hok.1 σ a w m β ν ex σ' _ hr hI fun a' w' m' β' ν' k=> ?_;cases ex
   ·exact absurd hr (hne σ')
   ·exact hQ a' w' m' β' ν' k
   ·exact hQ a' w' m' β' ν' k
 | cond c x y ihx ihy=>
  intro cc hok σ a w m β ν ex σ' Q hr hI hQ;cases cc <;> simp only[Yh,Bool.and_eq_true]at hok <;> try (cases hok;done)
  obtain⟨⟨h0,h1⟩,h2⟩:=hok;simp only[Zg]at hr;split at hr
  ·rename_i hv;have g:=(hI.val h0 (by rw[hv];rfl)).1;rw[hv]at g;simp only[Qc]at g;exact wp_cond_true g (ihx _ h1 σ a w m β ν ex σ' Q hr hI hQ)
  ·rename_i hv;have g:=(hI.val h0 (by rw[hv];rfl)).1;rw[hv]at g;simp only[Qc]at g;exact wp_cond_false g (ihy _ h2 σ a w m β ν ex σ' Q hr hI hQ)
  ·cases hr
 | block id x ihx=>
  intro cc hok σ a w m β ν ex σ' Q hr hI hQ;cases cc <;> simp only[Yh,Bool.and_eq_true,decide_eq_true_eq]at hok <;> try (cases hok;done)
  obtain⟨rfl,hok⟩:=hok;refine wp_block ?_;simp only[Zg]at hr;split at hr
  ·rename_i i s h1;simp only[Option.some.injEq,Prod.mk.injEq]at hr;obtain⟨rfl,rfl⟩:=hr;refine ihx _ hok σ a w m β ν (.exit i) s _ h1 hI fun a' w' m' β' ν' k=> ?_;have hq:=hQ a' w' m' β' ν' k;simp only[Ex.toExit,Exit.inBlock];split
   ·rename_i e;rw[if_pos e]at hq;exact hq
   ·rename_i e;rw[if_neg e]at hq;exact hq
  ·rename_i hne;refine ihx _ hok σ a w m β ν ex σ' _ hr hI fun a' w' m' β' ν' k=> ?_;have hq:=hQ a' w' m' β' ν' k;cases ex
   ·exact hq
   ·exact absurd hr (hne _ _)
   ·exact hq
 | loop x ihx=>
  intro cc hok σ a w m β ν ex σ' Q hr hI hQ;cases cc <;> simp only[Yh]at hok <;> try (cases hok;done)
  rename_i c2;simp only[Zg]at hr;refine wp_loop_rounds n ?_;have key: ∀(k:Nat) (σ:St) (a:Act) (w:World) (m:Nat→Nat) (β:List Blk) (ν:Own),UU (Zg K n x) k σ=some (ex,σ')→Inv num N w0 m0 T β0 σ a w m β ν→Code.rounds P c2 Q k a w:=by
   intro k
   induction k with
   | zero=>intro σ a w m β ν h;simp[UU]at h
   | succ k ih=>
    intro σ a w m β ν h hI;rw[rounds_succ];simp only[UU]at h;split at h
    ·rename_i s h1;refine ihx _ hok σ a w m β ν .normal s _ h1 hI fun a' w' m' β' ν' k2=> ?_;exact ih s a' w' m' β' ν' h k2
    ·rename_i hne;refine ihx _ hok σ a w m β ν ex σ' _ h hI fun a' w' m' β' ν' k2=> ?_;cases ex
     ·exact absurd h (hne σ')
     ·exact hQ a' w' m' β' ν' k2
     ·exact hQ a' w' m' β' ν' k2
  exact key n σ a w m β ν hr hI
 | exit id=>
  intro cc hok σ a w m β ν ex σ' Q hr hI hQ;cases cc <;> simp only[Yh,decide_eq_true_eq]at hok <;> try (cases hok;done)
  subst hok;simp only[Zg,Option.some.injEq,Prod.mk.injEq]at hr;obtain⟨rfl,rfl⟩:=hr;exact wp_exit (hQ a w m β ν hI)
 | ret=>
  intro cc hok σ a w m β ν ex σ' Q hr hI hQ;cases cc <;> simp[Yh]at hok;simp only[Zg,Option.some.injEq,Prod.mk.injEq]at hr;obtain⟨rfl,rfl⟩:=hr;exact wp_ret (hQ a w m β ν hI)
end
end Go.Am
