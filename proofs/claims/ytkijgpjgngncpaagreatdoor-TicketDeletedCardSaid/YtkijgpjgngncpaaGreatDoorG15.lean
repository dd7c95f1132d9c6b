/-
  Am21, Am22, Am23, Ge1, Ge2, Ge3, Ge4, Ge5, Ge6, Ge10, Ge11.
-/
import Derived.Test.YtkijgpjgngncpaaGreatDoorG10
import Derived.Test.YtkijgpjgngncpaaGreatDoorG14
set_option linter.all false
namespace Go.Am
abbrev Out:=Option (AV×List (List AV))
abbrev Kn:=Ex→St→Out
section
variable {T:Nat→Option AFn}
noncomputable def R (T:Nat→Option AFn) (c:AC) (ρ:Nat→AV) (bs:List (List AV)) (k:Kn):Out:=match run T c ⟨ρ,bs⟩with
 | some (e,s)=>k e s
 | none=>none
noncomputable def O (T:Nat→Option AFn) (os:List Qn) (ρ:Nat→AV) (bs:List (List AV)) (k:Kn):Out:=match Zn (call T) os ⟨ρ,bs⟩with
 | some s=>k .normal s
 | none=>none
noncomputable def E (T:Nat→Option AFn) (r:Option (AV×St)) (d:Option Nat) (os:List Qn) (k:Kn):Out:=match r with
 | some p=>O T os (ZH p.2.env d p.1) p.2.bs k
 | none=>none
def Ys (c b:Bool) (x y:Out):Out:=if c=b then x else y
noncomputable def Qu (T:Nat→Option AFn) (b:AC) (k:Kn):Kn:=fun e s=>match e with
 | .normal=>match run T b s with
  | some (e,s)=>k e s
  | none=>none
 | e=>k e s
def Qi (id:Nat) (k:Kn):Kn:=fun e s=>match e with
 | .exit i=>k (if i=id then .normal else .exit i) s
 | e=>k e s
def Qy (fn:Qg) (n:List (List AV)):Kn:=fun e s=>match e with
 | .normal=>YF fn n s
 | .ret=>YF fn n s
 | .exit _=>none
theorem P1 (x y:Out):Ys true true x y=x:=rfl
theorem Lp (x y:Out):Ys false false x y=x:=rfl
theorem Lq (x y:Out):Ys true false x y=y:=rfl
theorem P0 (x y:Out):Ys false true x y=y:=rfl
theorem IU (c b:Bool) (x:Out):Ys c b x x=x:=by unfold Ys;split <;> rfl
theorem G3 (c b:Bool) (x y:Out):Ys (!c) b x y=Ys c (!b) x y:=by cases c <;> cases b <;> rfl
theorem X5 (c b:Bool) (x y:Out):Ys c b x y=if c=b then x else y:=rfl
theorem QdG (ρ:Nat→AV) (bs:List (List AV)) (k:Kn):R T .skip ρ bs k=k .normal ⟨ρ,bs⟩:=by simp only[R,AW]
theorem Qe4 (ρ:Nat→AV) (bs:List (List AV)) (k:Kn):R T .ret ρ bs k=k .ret ⟨ρ,bs⟩:=by simp only[R,Qc0]
theorem QdE (id:Nat) (ρ:Nat→AV) (bs:List (List AV)) (k:Kn):R T (.exit id) ρ bs k=k (.exit id) ⟨ρ,bs⟩:=by simp only[R,AQ]
theorem Qe3 (d:Bool) (ops:List Qn) (ρ:Nat→AV) (bs:List (List AV)) (k:Kn):R T (.reg d ops) ρ bs k=O T ops ρ bs k:=by
 simp only[R,O,QcZ];cases Zn (call T) ops ⟨ρ,bs⟩ <;> rfl
theorem Qe5 (a b:AC) (ρ:Nat→AV) (bs:List (List AV)) (k:Kn):R T (.seq a b) ρ bs k=R T a ρ bs (Qu T b k):=by
 simp only[R,Qc1];cases run T a ⟨ρ,bs⟩with
 | none=>rfl
 | some x=>
  obtain⟨e,s⟩:=x;cases e <;> rfl
theorem Qa0 (id:Nat) (c:AC) (ρ:Nat→AV) (bs:List (List AV)) (k:Kn):R T (.block id c) ρ bs k=R T c ρ bs (Qi id k):=by
 simp only[R,D1];cases run T c ⟨ρ,bs⟩with
 | none=>rfl
 | some x=>
  obtain⟨e,s⟩:=x;cases e <;> rfl
theorem QdF (c:AC) (ρ:Nat→AV) (bs:List (List AV)) (k:Kn):R T (.loop c) ρ bs k=R T c ρ bs (Qu T (.loop c) k):=by
 simp only[R];rw[AR];cases run T c ⟨ρ,bs⟩with
 | none=>rfl
 | some x=>
  obtain⟨e,s⟩:=x;cases e <;> rfl
theorem He (b:AC) (k:Kn) (ρ:Nat→AV) (bs:List (List AV)):Qu T b k .normal ⟨ρ,bs⟩=R T b ρ bs k:=rfl
theorem Qai (b:AC) (k:Kn) (s:St):Qu T b k .ret s=k .ret s:=rfl
theorem Co (b:AC) (k:Kn) (s:St) (id:Nat):Qu T b k (.exit id) s=k (.exit id) s:=rfl
theorem LM (id:Nat) (k:Kn) (s:St):Qi id k .normal s=k .normal s:=rfl
theorem GC (id:Nat) (k:Kn) (s:St):Qi id k .ret s=k .ret s:=rfl
theorem Is (id:Nat) (k:Kn) (s:St):Qi id k (.exit id) s=k .normal s:=by simp[Qi]
theorem My (id i:Nat) (h: (i == id)=false) (k:Kn) (s:St):Qi id k (.exit i) s=k (.exit i) s:=by
 have:i≠id:=by simpa using h
 simp[Qi,this]
theorem IM (fn:Qg) (k:List (List AV)) (s:St):Qy fn k .normal s=YF fn k s:=rfl
theorem B5 (fn:Qg) (k:List (List AV)) (s:St):Qy fn k .ret s=YF fn k s:=rfl
noncomputable def GO (T:Nat→Option AFn) (v:AV) (n:Nat) (a b:AC) (ρ:Nat→AV) (bs:List (List AV)) (k:Kn):Out:=match v with
 | .bool c=>Ys c true (R T a (upd ρ n (.bool true)) bs k) (R T b (upd ρ n (.bool false)) bs k)
 | _=>none
theorem Wp {ρ:Nat→AV} {n:Nat} {v:AV} (h:ρ n=v):upd ρ n v=ρ:=by
 funext j;unfold upd;split
 ·rename_i hj;rw[hj,h]
 ·rfl
theorem QdD (n:Nat) (a b:AC) (ρ:Nat→AV) (bs:List (List AV)) (k:Kn):R T (.cond (.t n) a b) ρ bs k=GO T (ρ n) n a b ρ bs k:=by
 simp only[R,AP,val,GO];cases h:ρ n <;> try rfl
 rename_i c;cases c
 ·simp only[AV.strip,P0,Wp h]
 ·simp only[AV.strip,P1,Wp h]
theorem GP (c:Bool) (n:Nat) (a b:AC) (ρ:Nat→AV) (bs:List (List AV)) (k:Kn):
  GO T (.bool c) n a b ρ bs k=Ys c true (R T a (upd ρ n (.bool true)) bs k) (R T b (upd ρ n (.bool false)) bs k):=rfl
theorem Qe2 (ρ:Nat→AV) (bs:List (List AV)) (k:Kn):O T [] ρ bs k=k .normal ⟨ρ,bs⟩:=rfl
theorem QdA (d:Option Nat) (op:AOp) (os:List Qn) (ρ:Nat→AV) (bs:List (List AV)) (k:Kn):
  O T (⟨d,op,none⟩:: os) ρ bs k=E T (Qe (call T) op ⟨ρ,bs⟩) d os k:=by
 simp only[O,E,Zn,Zj];cases Qe (call T) op ⟨ρ,bs⟩ <;> rfl
noncomputable def NW (T:Nat→Option AFn) (v:AV) (t:Nat) (b:Bool) (d:Option Nat) (op:AOp) (os:List Qn) (ρ:Nat→AV) (bs:List (List AV)) (k:Kn):Out:=match v with
 | .bool c=>Ys c b (E T (Qe (call T) op ⟨upd ρ t (.bool b),bs⟩) d os k) (O T os (ZH (upd ρ t (.bool (!b))) d (.tup [])) bs k)
 | .tup []=>O T os (ZH ρ d (.tup [])) bs k
 | _=>none
theorem Wy (d:Option Nat) (op:AOp) (t:Nat) (b:Bool) (os:List Qn) (ρ:Nat→AV) (bs:List (List AV)) (k:Kn):
  O T (⟨d,op,some (t,b)⟩:: os) ρ bs k=NW T (ρ t) t b d op os ρ bs k:=by
 simp only[O,Zn,Zj,NW];cases h:ρ t <;> try rfl
 ·rename_i c;by_cases hcb:c=b
  ·subst hcb;simp only[Ys,if_true,Wp h,E];cases Qe (call T) op ⟨ρ,bs⟩ <;> rfl
  ·have hcb2:c= !b:=by cases c <;> cases b <;> simp_all
   subst hcb2;simp only[Ys,hcb,if_false,Wp h];rfl
 ·rename_i vs;cases vs <;> rfl
theorem WP (c:Bool) (t:Nat) (b:Bool) (d:Option Nat) (op:AOp) (os:List Qn) (ρ:Nat→AV) (bs:List (List AV)) (k:Kn):
  NW T (.bool c) t b d op os ρ bs k=Ys c b (E T (Qe (call T) op ⟨upd ρ t (.bool b),bs⟩) d os k) (O T os (ZH (upd ρ t (.bool (!b))) d (.tup [])) bs k):=rfl
theorem NX (t:Nat) (b:Bool) (d:Option Nat) (op:AOp) (os:List Qn) (ρ:Nat→AV) (bs:List (List AV)) (k:Kn):
  NW T (.tup []) t b d op os ρ bs k=O T os (ZH ρ d (.tup [])) bs k:=rfl
theorem Qdw (v:AV) (ρ:Nat→AV) (bs:List (List AV)) (d:Nat) (os:List Qn) (k:Kn):E T (some (v,⟨ρ,bs⟩)) (some d) os k=O T os (upd ρ d v) bs k:=rfl
theorem QaU (v:AV) (ρ:Nat→AV) (bs:List (List AV)) (os:List Qn) (k:Kn):E T (some (v,⟨ρ,bs⟩)) none os k=O T os ρ bs k:=rfl
theorem Qdv (d:Option Nat) (os:List Qn) (k:Kn):E T none d os k=none:=rfl
theorem Cq (ρ:Nat→AV) (d:Nat) (v:AV):ZH ρ (some d) v=upd ρ d v:=rfl
theorem Cp (ρ:Nat→AV) (v:AV):ZH ρ none v=ρ:=rfl
theorem Qa {f:Nat} {fn:Qg} (h:T f=some (.code fn)) (args:List AV) (bs:List (List AV)) (hl:args.length=fn.nparams):
  call T f args bs=R T fn.body (YN args) bs (Qy fn bs):=by
 rw[HA,h];simp only[hl,if_true,R];cases run T fn.body ⟨YN args,bs⟩with
 | none=>rfl
 | some x=>
  obtain⟨e,s⟩:=x;cases e <;> rfl
theorem ZA {f:Nat} {g:List AV→List (List AV)→Option (AV×List (List AV))} (h:T f=some (.orc g)) (args:List AV) (bs:List (List AV)):call T f args bs=g args bs:=by
 rw[HA,h]
theorem CV (a:AV) (aq:List AV):YN (a:: aq) 0=a.strip:=rfl
theorem Iq (a:AV) (aq:List AV) (i:Nat):YN (a:: aq) (i+1)=YN aq i:=rfl
theorem Vg (ρ:Nat→AV) (i:Nat) (v:AV):upd ρ i v i=v:=by simp[upd]
variable {K:ZK} (ρ:Nat→AV) (bs:List (List AV))
theorem QfK (n:Nat):val ρ (.t n)=(ρ n).strip:=rfl
theorem QfJ (v:AV):val ρ (.c v)=v:=rfl
end
end Go.Am
namespace Go.Am
section
variable {T:Nat→Option AFn}
def Se (b:Bool):AV→Bool
 | .bool c=>c == !b
 | .tup []=>true
 | _=>false
noncomputable def O2 (T:Nat→Option AFn) (c:Bool) (_t:Nat) (b:Bool) (os:List Qn) (ρ1 ρ2:Nat→AV) (bs1 bs2:List (List AV)) (k:Kn):Out:=
 if c=b then O T os ρ1 bs1 k else O T os ρ2 bs2 k
noncomputable def E2 (T:Nat→Option AFn) (c:Bool) (_t:Nat) (b:Bool) (r:Option (AV×St)) (d:Option Nat) (os:List Qn) (ρ2:Nat→AV) (bs2:List (List AV)) (k:Kn):Out:=
 if c=b then E T r d os k else O T os (ZH ρ2 d (.tup [])) bs2 k
def ZG (c b:Bool) (x y:AV):AV:=if c=b then x else y
def Ns (c b:Bool) (x y:List (List AV)):List (List AV):=if c=b then x else y
def mrg (c b:Bool) (ρ1 ρ2:Nat→AV):Nat→AV:=fun j=>ZG c b (ρ1 j) (ρ2 j)
theorem Qcz (c b:Bool) (ρ1 ρ2:Nat→AV) (j:Nat):mrg c b ρ1 ρ2 j=ZG c b (ρ1 j) (ρ2 j):=rfl
theorem Hn (c:Bool) (t:Nat) (b:Bool) (os:List Qn) (ρ1 ρ2:Nat→AV) (bs1 bs2:List (List AV)) (k:Kn):
  O2 T c t b os ρ1 ρ2 bs1 bs2 k=O T os (mrg c b ρ1 ρ2) (Ns c b bs1 bs2) k:=by
 unfold O2;split
 ·rename_i h;have:mrg c b ρ1 ρ2=ρ1:=by funext j;simp[mrg,ZG,h]
  rw[this,Ns,if_pos h]
 ·rename_i h;have:mrg c b ρ1 ρ2=ρ2:=by funext j;simp[mrg,ZG,h]
  rw[this,Ns,if_neg h]
theorem Qdz (c:Bool) (t:Nat) (b:Bool) (ρ1 ρ2:Nat→AV) (bs1 bs2:List (List AV)) (k:Kn):
  O2 T c t b [] ρ1 ρ2 bs1 bs2 k=O T [] (mrg c b ρ1 ρ2) (Ns c b bs1 bs2) k:=Hn c t b [] ρ1 ρ2 bs1 bs2 k
theorem QaW (c:Bool) (t:Nat) (b:Bool) (d:Option Nat) (op:AOp) (os:List Qn) (ρ1 ρ2:Nat→AV) (bs1 bs2:List (List AV)) (k:Kn):
  O2 T c t b (⟨d,op,none⟩:: os) ρ1 ρ2 bs1 bs2 k=O T (⟨d,op,none⟩:: os) (mrg c b ρ1 ρ2) (Ns c b bs1 bs2) k:=Hn c t b _ ρ1 ρ2 bs1 bs2 k
theorem CN (c:Bool) (t:Nat) (b:Bool) (d:Option Nat) (op:AOp) (t':Nat) (b':Bool) (os:List Qn) (ρ1 ρ2:Nat→AV) (bs1 bs2:List (List AV)) (k:Kn) (_h: ((t' == t) && (b' == b))=false):
  O2 T c t b (⟨d,op,some (t',b')⟩:: os) ρ1 ρ2 bs1 bs2 k=Ys c b (O T (⟨d,op,some (t',b')⟩:: os) ρ1 bs1 k) (O T (⟨d,op,some (t',b')⟩:: os) ρ2 bs2 k):=by
 unfold O2 Ys;rfl
theorem QaX (c:Bool) (t:Nat) (b:Bool) (d:Option Nat) (op:AOp) (os:List Qn) (ρ1 ρ2:Nat→AV) (bs1 bs2:List (List AV)) (k:Kn) (h1:ρ1 t= .bool b) (h2:Se b (ρ2 t)=true):
  O2 T c t b (⟨d,op,some (t,b)⟩:: os) ρ1 ρ2 bs1 bs2 k=E2 T c t b (Qe (call T) op ⟨ρ1,bs1⟩) d os ρ2 bs2 k:=by
 unfold O2 E2;split
 ·rw[Wy,h1,WP,X5,if_pos rfl,Wp h1]
 ·rw[Wy];unfold Se at h2;split at h2
  ·rename_i c hc;rw[hc,WP];simp only[beq_iff_eq]at h2;subst h2;rw[X5,if_neg (by cases b <;> simp),Wp hc]
  ·rename_i hc;rw[hc,NX]
  ·cases h2
theorem QaT (c:Bool) (t:Nat) (b:Bool) (v:AV) (ρ1:Nat→AV) (bs1:List (List AV)) (d:Option Nat) (os:List Qn) (ρ2:Nat→AV) (bs2:List (List AV)) (k:Kn):
  E2 T c t b (some (v,⟨ρ1,bs1⟩)) d os ρ2 bs2 k=O2 T c t b os (ZH ρ1 d v) (ZH ρ2 d (.tup [])) bs1 bs2 k:=rfl
noncomputable def G (T:Nat→Option AFn) (v:AV) (d:Option Nat) (op:AOp) (t:Nat) (b:Bool) (os:List Qn) (ρ:Nat→AV) (bs:List (List AV)) (k:Kn):Out:=match v with
 | .bool c=>O2 T c t b (⟨d,op,some (t,b)⟩:: os) (upd ρ t (.bool b)) (upd ρ t (.bool (!b))) bs bs k
 | .tup []=>O T os (ZH (upd ρ t (.tup [])) d (.tup [])) bs k
 | _=>none
theorem Rc (c:Bool) (d:Option Nat) (op:AOp) (t:Nat) (b:Bool) (os:List Qn) (ρ:Nat→AV) (bs:List (List AV)) (k:Kn):
  G T (.bool c) d op t b os ρ bs k=O2 T c t b (⟨d,op,some (t,b)⟩:: os) (upd ρ t (.bool b)) (upd ρ t (.bool (!b))) bs bs k:=rfl
theorem QaE (d:Option Nat) (op:AOp) (t:Nat) (b:Bool) (os:List Qn) (ρ:Nat→AV) (bs:List (List AV)) (k:Kn):
  G T (.tup []) d op t b os ρ bs k=O T os (ZH (upd ρ t (.tup [])) d (.tup [])) bs k:=rfl
theorem QaY (d:Option Nat) (op:AOp) (t:Nat) (b:Bool) (os:List Qn) (ρ:Nat→AV) (bs:List (List AV)) (k:Kn):
  O T (⟨d,op,some (t,b)⟩:: os) ρ bs k=G T (ρ t) d op t b os ρ bs k:=by
 cases h:ρ t <;> try (rw[Wy,h];rfl)
 ·rename_i c;rw[Rc];unfold O2;by_cases hcb:c=b
  ·subst hcb;simp[Wp h]
  ·have hcb2:c= !b:=by cases c <;> cases b <;> simp_all
   subst hcb2;rw[Wp h,if_neg hcb]
 ·rename_i vs;cases vs with
  | nil=>rw[QaE,Wy,h,NX,Wp h]
  | cons v vs=>rw[Wy,h];rfl
theorem Qdx (d:Option Nat) (op:AOp) (t:Nat) (os:List Qn) (ρ:Nat→AV) (bs:List (List AV)) (k:Kn):
  G T (.bool true) d op t true os ρ bs k=E T (Qe (call T) op ⟨upd ρ t (.bool true),bs⟩) d os k:=by
 rw[Rc];unfold O2;rw[if_pos rfl,Wy,Vg,WP,P1,Wp (Vg _ _ _)]
theorem QaV (d:Option Nat) (op:AOp) (t:Nat) (os:List Qn) (ρ:Nat→AV) (bs:List (List AV)) (k:Kn):
  G T (.bool false) d op t false os ρ bs k=E T (Qe (call T) op ⟨upd ρ t (.bool false),bs⟩) d os k:=by
 rw[Rc];unfold O2;rw[if_pos rfl,Wy,Vg,WP,Lp,Wp (Vg _ _ _)]
theorem QfU (d:Option Nat) (op:AOp) (t:Nat) (os:List Qn) (ρ:Nat→AV) (bs:List (List AV)) (k:Kn):
  G T (.bool true) d op t false os ρ bs k=O T os (ZH (upd ρ t (.bool true)) d (.tup [])) bs k:=by
 rw[Rc];unfold O2;rw[if_neg (by simp),Wy,Vg];simp only[WP,Lq,Bool.not_false];rw[Wp (Vg _ _ _)]
theorem QfT (d:Option Nat) (op:AOp) (t:Nat) (os:List Qn) (ρ:Nat→AV) (bs:List (List AV)) (k:Kn):
  G T (.bool false) d op t true os ρ bs k=O T os (ZH (upd ρ t (.bool false)) d (.tup [])) bs k:=by
 rw[Rc];unfold O2;rw[if_neg (by simp),Wy,Vg];simp only[WP,P0,Bool.not_true];rw[Wp (Vg _ _ _)]
theorem Cl (c b:Bool) (x:AV):ZG c b x x=x:=by unfold ZG;split <;> rfl
theorem Ci (c b:Bool) (x:List (List AV)):Ns c b x x=x:=by unfold Ns;split <;> rfl
theorem QeR (c b:Bool) (x y z:AV):ZG c b (ZG c b x y) z=ZG c b x z:=by unfold ZG;split <;> simp_all
theorem QeS (c b:Bool) (x y z:AV):ZG c b x (ZG c b y z)=ZG c b x z:=by unfold ZG;split <;> simp_all
theorem Qdc (c:Bool) (x y z:AV):ZG c true (ZG c false x y) z=ZG c true y z:=by cases c <;> rfl
theorem Qdd (c:Bool) (x y z:AV):ZG c true x (ZG c false y z)=ZG c true x y:=by cases c <;> rfl
theorem Qc9 (c:Bool) (x y z:AV):ZG c false (ZG c true x y) z=ZG c false y z:=by cases c <;> rfl
theorem Qda (c:Bool) (x y z:AV):ZG c false x (ZG c true y z)=ZG c false x y:=by cases c <;> rfl
theorem Cn (c:Bool) (x y:AV):ZG c false x y=ZG c true y x:=by cases c <;> rfl
theorem Qag (x y:AV):ZG true true x y=x:=rfl
theorem Ck (x y:AV):ZG false true x y=y:=rfl
theorem Cj (c x y:Bool):ZG c true (.bool x) (.bool y)= .bool (bif c then x else y):=by cases c <;> rfl
theorem Qaf (c:Bool) (k:IntKind) (x y:Int):ZG c true (.int k x) (.int k y)= .int k (bif c then x else y):=by cases c <;> rfl
theorem FR (c b:Bool) (x y:AV): (ZG c b x y).strip=ZG c b x.strip y.strip:=by unfold ZG;split <;> rfl
theorem Qdb (c b:Bool) (x y:AV): (ZG c b x y).ok=if c=b then x.ok else y.ok:=by unfold ZG;split <;> rfl
theorem Qah (c b:Bool) (x y:AV): (ZG c b x y).one=if c=b then x.one else y.one:=by unfold ZG;split <;> rfl
theorem Cm (c b d:Bool) (x y:AV):Se d (ZG c b x y)=if c=b then Se d x else Se d y:=by unfold ZG;split <;> rfl
theorem IY (c b:Bool):Se b (.bool c)=(c == !b):=rfl
theorem G7 (b:Bool):Se b (.tup [])=true:=rfl
def Fs (v x y:AV) (s:St):Option (AV×St):=match v with
 | .bool c=>let v:=ZG c true x y;if v.ok then some (v,s)else none
 | _=>none
theorem QdR {K:ZK} (c a b:AO) (ρ:Nat→AV) (bs:List (List AV)):Qe K (.pick c a b) ⟨ρ,bs⟩=Fs (val ρ c) (val ρ a) (val ρ b) ⟨ρ,bs⟩:=by
 simp only[Qe,Fs];cases val ρ c <;> try rfl
 rename_i x;cases x <;> rfl
theorem Ft (c:Bool) (x y:AV) (s:St):Fs (.bool c) x y s=if(ZG c true x y).ok then some (ZG c true x y,s)else none:=rfl
end
end Go.Am
namespace Go.Am
theorem Qdp (ρ:Nat→AV) (i:Nat) (v:AV) (j:Nat):upd ρ i v j=if j=i then v else ρ j:=rfl
theorem L6:AV.strip (.undef)= .undef:=rfl
theorem FI:AV.ok (.undef)=false:=rfl
theorem I7:AV.one (.undef)=false:=rfl
theorem I6:AV.gpfree (.undef)=true:=rfl
theorem Ha (k:IntKind) (n:Int):AV.strip (.int k n)= .int k n:=rfl
theorem A5 (k:IntKind) (n:Int):AV.ok (.int k n)=true:=rfl
theorem Cd (k:IntKind) (n:Int):AV.one (.int k n)=true:=rfl
theorem D4 (k:IntKind) (n:Int):AV.gpfree (.int k n)=true:=rfl
theorem J3 (b:Bool):AV.strip (.bool b)= .bool b:=rfl
theorem D9 (b:Bool):AV.ok (.bool b)=true:=rfl
theorem FK (b:Bool):AV.one (.bool b)=true:=rfl
theorem FG (b:Bool):AV.gpfree (.bool b)=true:=rfl
theorem Hb:AV.strip (.nlp)= .nlp:=rfl
theorem A6:AV.ok (.nlp)=true:=rfl
theorem Ce:AV.one (.nlp)=true:=rfl
theorem D5:AV.gpfree (.nlp)=true:=rfl
theorem J2:AV.strip (.anyb)= .anyb:=rfl
theorem D8:AV.ok (.anyb)=true:=rfl
theorem FJ:AV.one (.anyb)=true:=rfl
theorem FF:AV.gpfree (.anyb)=true:=rfl
theorem Hc (s:List UInt8):AV.strip (.str s)= .str s:=rfl
theorem A7 (s:List UInt8):AV.ok (.str s)=true:=rfl
theorem Cf (s:List UInt8):AV.one (.str s)=true:=rfl
theorem D6 (s:List UInt8):AV.gpfree (.str s)=true:=rfl
theorem I8 (cs:List AV):AV.strip (.agg cs)= .agg cs:=rfl
theorem A3 (cs:List AV):AV.ok (.agg cs)=true:=rfl
theorem Cb (cs:List AV):AV.one (.agg cs)=false:=rfl
theorem D2 (cs:List AV):AV.gpfree (.agg cs)=gpfreeL cs:=rfl
theorem FQ (o:Bool) (z:Nat) (xs:List (List AV)):AV.strip (.sl o z xs)= .sl false z xs:=rfl
theorem Qc7 (o:Bool) (z:Nat) (xs:List (List AV)):AV.ok (.sl o z xs)=true:=rfl
theorem Qad (o:Bool) (z:Nat) (xs:List (List AV)):AV.one (.sl o z xs)=true:=rfl
theorem A0 (o:Bool) (z:Nat) (xs:List (List AV)):AV.gpfree (.sl o z xs)=gpfreeE xs:=rfl
theorem FM (cs:List AV):AV.strip (.bx cs)= .bx cs:=rfl
theorem Qc3 (cs:List AV):AV.ok (.bx cs)=false:=rfl
theorem A9 (cs:List AV):AV.one (.bx cs)=false:=rfl
theorem AX (cs:List AV):AV.gpfree (.bx cs)=gpfreeL cs:=rfl
theorem FO (i o:Nat):AV.strip (.gp i o)= .gp i o:=rfl
theorem Qc5 (i o:Nat):AV.ok (.gp i o)=true:=rfl
theorem Qab (i o:Nat):AV.one (.gp i o)=true:=rfl
theorem AZ (i o:Nat):AV.gpfree (.gp i o)=false:=rfl
theorem FP (i o z n:Nat):AV.strip (.gs i o z n)= .gs i o z n:=rfl
theorem Qc6 (i o z n:Nat):AV.ok (.gs i o z n)=true:=rfl
theorem Qac (i o z n:Nat):AV.one (.gs i o z n)=true:=rfl
theorem J4 (cs:List AV):AV.strip (.rptr cs)= .rptr cs:=rfl
theorem Ca (cs:List AV):AV.ok (.rptr cs)=true:=rfl
theorem FL (cs:List AV):AV.one (.rptr cs)=true:=rfl
theorem FH (cs:List AV):AV.gpfree (.rptr cs)=gpfreeL cs:=rfl
theorem FN (f:Nat) (cs:List AV):AV.strip (.fn f cs)= .fn f cs:=rfl
theorem Qc4 (f:Nat) (cs:List AV):AV.ok (.fn f cs)=true:=rfl
theorem Qaa (f:Nat) (cs:List AV):AV.one (.fn f cs)=true:=rfl
theorem AY (f:Nat) (cs:List AV):AV.gpfree (.fn f cs)=gpfreeL cs:=rfl
theorem Hd (vs:List AV):AV.strip (.tup vs)= .tup vs:=rfl
theorem A8 (vs:List AV):AV.ok (.tup vs)=true:=rfl
theorem Cg (vs:List AV):AV.one (.tup vs)=false:=rfl
theorem D7 (vs:List AV):AV.gpfree (.tup vs)=gpfreeL vs:=rfl
theorem I9 (b:Bool):AV.strip (.err b)= .err b:=rfl
theorem A4 (b:Bool):AV.ok (.err b)=true:=rfl
theorem Cc (b:Bool):AV.one (.err b)=true:=rfl
theorem D3 (b:Bool):AV.gpfree (.err b)=true:=rfl
theorem Ag {α:Type} (p:Prop) [Decidable p] (a b c:α): (if p then(if p then a else b)else c)=if p then a else c:=by split <;> simp_all
theorem Af {α:Type} (p:Prop) [Decidable p] (a b c:α): (if p then a else(if p then b else c))=if p then a else c:=by split <;> simp_all
attribute [simp] Hb A6 Ce D5 L6 FI I7 I6 Ha A5 Cd D4 J3 D9 FK FG J2 D8 FJ FF Hc A7 Cf D6 I8 A3 Cb D2 FQ Qc7 Qad A0 FM Qc3 A9 AX FO Qc5 Qab AZ FP Qc6 Qac J4 Ca FL FH FN Qc4 Qaa AY Hd A8 Cg D7 I9 A4 Cc D3 Ag Af
attribute [simp] eqVE_refl QdG Qe4 QdE Qe3 Qe5 Qa0 QdD Qe2 QdA QaY Qdw QaU Qdv Cq Cp GP He Qai Co LM GC Is IM B5 P1 Lq Lp P0 G3 IU Qe QfK QfJ CV Iq Yr aun YF YI Wn gpfreeL gpfreeE Y5 ZV cellsOf put Qdp Qdz QaW CN QaX QaT Qcz Rc QaE IY G7 Cl Ci QeR QeS Qdc Qdd Qc9 Qda Cn Qag Ck Cj Qaf FR Qdb Qah Cm Ft
attribute [simp ↓] QdR
attribute [simp 2000] Qdx QaV QfU QfT
theorem IW (c:Bool) (x y:Out):Ys c false x y=Ys c true y x:=by cases c <;> rfl
theorem IR (c x y:Bool) (s:List (List AV)):Ys c true (some (.bool x,s)) (some (.bool y,s))=some (.bool (bif c then x else y),s):=by cases c <;> rfl
theorem Jw (c:Bool) (k:IntKind) (x y:Int) (s:List (List AV)):Ys c true (some (.int k x,s)) (some (.int k y,s))=some (.int k (bif c then x else y),s):=by cases c <;> rfl
theorem Qd {T:Nat→Option AFn} {c c':AC} (h:c=c') (ρ:Nat→AV) (bs:List (List AV)) (k:Kn):R T (.loop c) ρ bs k=R T c' ρ bs (Qu T (.loop c) k):=by
 subst h;exact QdF c ρ bs k
attribute [simp] toI
theorem QR {α:Type} (x:α) (xs:List α): (x:: xs)[0]? =some x:=rfl
attribute [simp] IW IR Jw X3 Yp Q3 Bool.cond_decide
theorem Qq {n:Int} (h1: -9223372036854775808≤n) (h2:n < 9223372036854775808):IntKind.i64.wrap n=n:=by
 simp only[IntKind.wrap_i64];omega
theorem wr1 (n:Nat) (h:n+1 < 9223372036854775808):IntKind.i64.wrap ((n:Int)+1)=(n:Int)+1:=Qq (by omega) (by omega)
theorem QM {α:Type} {l pre post:List α} {x:α} (h:l=pre ++ x:: post):l.length=pre.length+ (post.length+1):=by rw[h];simp
theorem QO {α:Type} {l pre post:List α} {x:α} (h:l=pre ++ x:: post): (pre.length:Int) < (l.length:Int):=by have:=QM h;omega
@[simp] theorem QgL (n:Nat) (vs:List AV):stV (.t n) vs=vs.map AV.strip:=rfl
@[simp] theorem QgI (z:Nat) (vs:List AV):stV (.c (.sl true z [])) vs=vs.map fun _=> .sl true z []:=rfl
@[simp] theorem QgH (k:IntKind) (n:Int) (vs:List AV):stV (.c (.int k n)) vs=vs.map AV.strip:=rfl
@[simp] theorem QgJ (s:List UInt8) (vs:List AV):stV (.c (.str s)) vs=vs.map AV.strip:=rfl
@[simp] theorem Qgs (b:Bool) (vs:List AV):stV (.c (.bool b)) vs=vs.map AV.strip:=rfl
@[simp] theorem QgF (cs:List AV) (vs:List AV):stV (.c (.agg cs)) vs=vs.map AV.strip:=rfl
@[simp] theorem QgG (b:Bool) (vs:List AV):stV (.c (.err b)) vs=vs.map AV.strip:=rfl
@[simp] theorem QgB (i o k:Nat):S5 (.gs i o 0 0) (.sl true k [])= .sl true k []:=rfl
@[simp] theorem Qgm (k:IntKind) (n:Int) (z:AV):S5 (.int k n) z= .int k n:=rfl
@[simp] theorem Qgn (s:List UInt8) (z:AV):S5 (.str s) z= .str s:=rfl
@[simp] theorem QfP (b:Bool) (z:AV):S5 (.bool b) z= .bool b:=rfl
@[simp] theorem QgC (o:Bool) (k:Nat) (xs:List (List AV)) (z:AV):S5 (.sl o k xs) z= .sl false k xs:=rfl
attribute [simp] X7
@[simp] theorem QfH (i:Nat):AV.strip (.mp i)= .mp i:=rfl
@[simp] theorem QeQ (z:Nat) (xs:List (List AV)) (vs:List AV):AV.strip (.otup z xs vs)= .tup (.sl false z xs:: vs):=rfl
@[simp] theorem QfQ (z:Nat) (xs:List (List AV)) (vs:List AV):AV.ok (.otup z xs vs)=true:=rfl
@[simp] theorem QfG (z:Nat) (xs:List (List AV)) (vs:List AV):AV.gpfree (.otup z xs vs)=(gpfreeE xs && gpfreeL vs):=rfl
@[simp] theorem QfI (z:Nat) (cs:List AV):AV.strip (.pv z cs)= .pv z cs:=rfl
@[simp] theorem QgE (z:Nat) (cs:List AV):AV.ok (.pv z cs)=false:=rfl
@[simp] theorem QgD (i:Nat):AV.ok (.mp i)=true:=rfl
@[simp] theorem Qgr (i:Nat):AV.one (.mp i)=true:=rfl
@[simp] theorem Qgq (i:Nat):AV.gpfree (.mp i)=false:=rfl
@[simp] theorem SA: ∀bs:List (List AV),Z9 bs bs=true
 | []=>rfl
 | x:: xs=>by simp only[Z9,eqVL_refl,SA xs,Bool.true_or,Bool.true_and]
@[simp] theorem QfZ (ys:List (List AV)):Z9 [] ys=true:=rfl
@[simp] theorem IE (a b c:List (List AV)):Z9 (a ++ b) (a ++ c)=Z9 b c:=by
 induction a with
 | nil=>rfl
 | cons x xs ih=>simp only[List.cons_append,Z9,eqVL_refl,ih,Bool.true_or,Bool.true_and]
@[simp] theorem QfY (a c:List (List AV)):Z9 a (a ++ c)=true:=by
 have:=IE a [] c;simpa using this
@[simp] theorem QfL (x:List AV) (xs ys:List (List AV)):Z9 (x:: xs) (x:: ys)=Z9 xs ys:=by simp only[Z9,eqVL_refl,Bool.true_or,Bool.true_and]
@[simp] theorem KZ {cs:List AV} (h:gpfreeL cs=true): ∀(bs:List (List AV)) (i:Nat),Z9 bs (bs.set i cs)=true
 | [],_=>rfl
 | x:: xs,0=>by simp only[List.set_cons_zero,Z9,h,SA,Bool.or_true,Bool.and_true]
 | x:: xs,i+1=>by simp only[List.set_cons_succ,Z9,eqVL_refl,KZ h xs i,Bool.true_or,Bool.and_true]
theorem MB: ∀{xs ys:List (List AV)},xs.length≤ys.length→(∀(i:Nat) (x y:List AV),xs[i]? =some x→ys[i]? =some y→x=y∨gpfreeL y=true)→Z9 xs ys=true
 | [],_,_,_=>rfl
 | _:: _,[],h,_=>by simp at h
 | x:: xs,y:: ys,h,hh=>by
  simp only[Z9,Bool.and_eq_true,Bool.or_eq_true];refine⟨?_,MB (by simpa using h) fun i a b ha hb=>hh (i+1) a b (by simpa using ha) (by simpa using hb)⟩;rcases hh 0 x y rfl rfl with h1 | h1
  ·subst h1;exact .inl (eqVL_refl x)
  ·exact .inr h1
@[simp] theorem Qgy {x y:List AV} (h:gpfreeL y=true) (xs ys:List (List AV)):Z9 (x:: xs) (y:: ys)=Z9 xs ys:=by simp only[Z9,h,Bool.or_true,Bool.true_and]
@[simp] theorem Qe0:gpfreeL []=true:=rfl
@[simp] theorem Ju (x:AV) (xs:List AV):gpfreeL (x:: xs)=(x.gpfree && gpfreeL xs):=rfl
@[simp] theorem IQ: ∀n:Nat,gpfreeL (List.replicate n .undef)=true
 | 0=>rfl
 | n+1=>by rw[List.replicate_succ,Ju,IQ n];rfl
@[simp] theorem K0 (bs:List (List AV)) (i:Nat):Z9 bs (bs.set i [])=true:=KZ rfl bs i
end Go.Am
namespace Go.Am
set_option maxRecDepth 8000
theorem PB (a b:Int) (bs:List (List AV)):call F.tb 32 [.int .i64 a,.int .i64 b] bs=some (.int .i64 (if a < b then -1 else if a > b then 1 else 0),bs):=by
 rw[Qa F.tb_32 _ _ rfl];simp[F.f32,F.f32C]
def X8 (c:UInt8):Bool:=(97≤c.toNat && c.toNat≤122) || (65≤c.toNat && c.toNat≤90) || (48≤c.toNat && c.toNat≤57) || c.toNat == 95 || c.toNat == 35
theorem KV (n m:Nat): ((n:Int) == (m:Int))=(n == m):=by rw[Bool.eq_iff_iff,beq_iff_eq,beq_iff_eq];omega
theorem NJ (n:Nat): ((n:Int) == 95)=(n == 95):=KV n 95
theorem NI (n:Nat): ((n:Int) == 35)=(n == 35):=KV n 35
theorem PA (c:UInt8) (bs:List (List AV)):call F.tb 9 [.int .u8 c.toNat] bs=some (.bool (X8 c),bs):=by
 rw[Qa F.tb_9 _ _ rfl];simp (config:={maxSteps:=1000000}) [F.f9,F.f9C,X8,NJ,NI];have e1: ∀m:Nat,((m:Int)≤(c.toNat:Int))=(m≤c.toNat):=fun m=>by simp
 have e2: ∀m:Nat,((c.toNat:Int)≤(m:Int))=(c.toNat≤m):=fun m=>by simp
 simp only[show(97:Int)=((97:Nat):Int)from rfl,show(122:Int)=((122:Nat):Int)from rfl,show(65:Int)=((65:Nat):Int)from rfl,show(90:Int)=((90:Nat):Int)from rfl,show(48:Int)=((48:Nat):Int)from rfl,show(57:Int)=((57:Nat):Int)from rfl,e1,e2];by_cases h1:97≤c.toNat <;> by_cases h2:c.toNat≤122 <;> by_cases h3:65≤c.toNat <;> by_cases h4:c.toNat≤90 <;> by_cases h5:48≤c.toNat <;> by_cases h6:c.toNat≤57 <;> simp[h1,h2,h3,h4,h5,h6]
theorem IX (s:List UInt8) (bs:List (List AV)) (hs:s.length < 4611686018427387904): ∀(k i:Nat) (ρ:Nat→AV),s.length - i=k→i≤s.length→ρ 0= .str s→ρ 38= .int .i64 s.length→ρ 39= .int .i64 i→
  R F.tb (.loop F.f8l0) ρ bs (Qi 0 (Qu F.tb F.f8r0 (Qy F.f8 bs)))=some (.bool ((s.drop i).all X8),bs):=by
 intro k
 induction k with
 | zero=>
  intro i ρ hk hi h0 h38 h39;have:i=s.length:=by omega
  subst this;rw[Qd F.f8l0.eq_1];simp[h0,h38,h39,F.f8r0]
 | succ k ih=>
  intro i ρ hk hi h0 h38 h39;have hlt:i < s.length:=by omega
  have hw:IntKind.i64.wrap ((i:Int)+1)=((i+1:Nat):Int):=Qq (by omega) (by omega);rw[Qd F.f8l0.eq_1,List.drop_eq_getElem_cons hlt,List.all_cons];cases hb:X8 s[i]
  ·simp[h0,h38,h39,hlt,PA,hb]
  ·simp[h0,h38,h39,hlt,PA,hb,hw];rw[ih (i+1)] <;> first | rfl | omega | simp[h0,h38]
def QP:List UInt8→Bool
 | []=>false
 | c:: r=>decide (r.length < 24) && X8 c && !(decide (48≤c.toNat) && decide (c.toNat≤57)) && c.toNat != 95 && c.toNat != 35 && r.all X8
theorem IA (s:List UInt8) (bs:List (List AV)) (hs:s.length < 4611686018427387904):call F.tb 8 [.str s] bs=some (.bool (QP s),bs):=by
 rw[Qa F.tb_8 _ _ rfl];cases s with
 | nil=>simp[F.f8C,QP]
 | cons c r=>
  have hl:=IX (c:: r) bs hs ((c:: r).length - 0) 0;simp (config:={maxSteps:=1000000}) [F.f8C,PA,hl,NJ,NI];have e1: (24 < (r.length:Int)+1)=(¬r.length < 24):=by rw[eq_iff_iff];omega
  have e2: ((48:Int)≤(c.toNat:Int))=(48≤c.toNat):=by rw[eq_iff_iff];omega
  have e3: ((c.toNat:Int)≤57)=(c.toNat≤57):=by rw[eq_iff_iff];omega
  simp only[QP,e1,e2,e3,bne];by_cases h1:r.length < 24 <;> by_cases h2:48≤c.toNat <;> by_cases h3:c.toNat≤57 <;> cases X8 c <;> simp[h1,h2,h3]
end Go.Am
namespace Go.Am
set_option maxRecDepth 8000
attribute [simp] Ox Oy
attribute [simp] Xm Zk Vl QX
attribute [simp] YO Wt Zw QJ Qj PQ Jd Je Jf Jg MD ME MF MG V4 encTs_gp
attribute [simp] Int.toNat_natCast
attribute [simp] Ox Oy
theorem Pu (t:Tm) (bs:List (List AV)) (hm:t.mass < big) (ih: ∀x∈t.kids,∀bs,call F.tb 31 [.agg (Qb x)] bs=some (.int .i64 x.nodes,bs)):
  ∀(post pre:List Tm) (ρ:Nat→AV),t.kids=pre ++ post→ρ 7= .sl false 4 (encTs t.kids)→ρ 8= .int .i64 t.kids.length→ρ 9= .int .i64 pre.length→ρ 3= .int .i64 (1+nodesL pre:Nat)→
  R F.tb (.loop F.f31l0) ρ bs (Qi 0 (Qu F.tb F.f31r0 (Qy F.f31 bs)))=some (.int .i64 t.nodes,bs):=by
 have hm2:=Qr t;have hn:=nodesL_le_mass t.kids;unfold big at hm;intro post
 induction post with
 | nil=>
  intro pre ρ hk h7 h8 h9 h3;rw[Qd F.f31l0.eq_1];simp at hk;simp[h3,h8,h9,← hk,F.f31r0,ZJ]
 | cons x post IH=>
  intro pre ρ hk h7 h8 h9 h3;have hg:=QB hk;have hl:=QM hk;have hnn:nodesL t.kids=nodesL pre+ (x.nodes+nodesL post):=by rw[hk,Yz];simp[nodesL]
  have hw1:=wr1 pre.length (by omega);have hw2:IntKind.i64.wrap (1+ (nodesL pre:Int)+ (x.nodes:Int))=1+ (nodesL pre:Int)+ (x.nodes:Int):=Qq (by omega) (by omega);have hlt:=QO hk;rw[Qd F.f31l0.eq_1];simp[h3,h7,h8,h9,hg,hw1,hw2,hlt,ih x (by rw[hk];simp)];rw[IH (pre ++ [x])] <;> simp[h3,h7,h8,h9,hk,Yz,nodesL];omega
theorem Ts: ∀(t:Tm) (bs:List (List AV)),t.mass < big→call F.tb 31 [.agg (Qb t)] bs=some (.int .i64 t.nodes,bs):=by
 refine ZU ?_;intro k n s ks ih bs hm;rw[Qa F.tb_31 _ _ rfl];simp[F.f31C];refine Pu (.mk k n s ks) bs hm (fun x hx bs=>ih x hx bs ?_) ks [] _ ?_ ?_ ?_ ?_ ?_ <;> (try simp[nodesL]);have:=QN hx;have:=Qr (.mk k n s ks);simp at *;omega
end Go.Am
namespace Go.Am
set_option maxRecDepth 8000
def two (bs:List (List AV)) (i j:Nat) (n d:Int):List (List AV):=(bs.set i [.int .i64 n]).set j [.int .i64 d]
section
variable {bs:List (List AV)} {i j:Nat} {n d m:Int}
theorem T4: (two bs i j n d).length=bs.length:=by simp[two]
theorem QaL (hi:i < bs.length) (hij:i≠j): (two bs i j n d)[i]? =some [.int .i64 n]:=by
 rw[two,List.getElem?_set_ne (Ne.symm hij),List.getElem?_set_self hi]
theorem QaM (hj:j < bs.length): (two bs i j n d)[j]? =some [.int .i64 d]:=by simp[two,hj]
theorem Qay (hij:i≠j): (two bs i j n d).set i [.int .i64 m]=two bs i j m d:=by
 simp only[two];rw[List.set_comm _ _ (Ne.symm hij),List.set_set]
@[simp] theorem K1 {n' d':Int}:Z9 (two bs i j n d) (two bs i j n' d')=true:=MB (by simp[T4]) fun k x y hx hy=>by
 unfold two at hx hy;rw[List.getElem?_set]at hx hy;split at hy
 ·split at hy
  ·injection hy with hy;subst hy;exact .inr rfl
  ·cases hy
 ·rename_i hjk;rw[if_neg hjk]at hx;rw[List.getElem?_set]at hx hy;split at hy
  ·split at hy
   ·injection hy with hy;subst hy;exact .inr rfl
   ·cases hy
  ·rename_i hik;rw[if_neg hik,hy]at hx;injection hx with hx
   exact .inl hx.symm
theorem Qaz: (two bs i j n d).set j [.int .i64 m]=two bs i j n m:=by simp[two]
end
def W2 (t:Tm):Int:=
 if t.kind=1∨t.kind=2 then
  if(t.sort < 0∨5 < t.sort)∨0 < t.kids.length then 1 else if QP t.name=false then 2 else if 8 < t.kids.length then 3 else 0
 else if t.kind=3 then
  if t.sort≠0 then 1 else if QP t.name=false then 2 else if 8 < t.kids.length then 3 else 0
 else 1
mutual
def ZI:Tm→Int
 | .mk k n s ks=>if W2 (.mk k n s ks)≠0 then W2 (.mk k n s ks)else errL ks
def errL:List Tm→Int
 | []=>0
 | t:: ts=>if ZI t≠0 then ZI t else errL ts
end
mutual
def WB:Tm→Int→Int×Int→Int×Int
 | .mk k n s ks,l,p=>if W2 (.mk k n s ks)≠0 then(p.1+1,if l > p.2 then l else p.2)else cntL ks l (p.1+1,if l > p.2 then l else p.2)
def cntL:List Tm→Int→Int×Int→Int×Int
 | [],_,p=>p
 | t:: ts,l,p=>if ZI t≠0 then WB t (l+1) p else cntL ts l (WB t (l+1) p)
end
mutual
theorem HG: ∀(t:Tm) (l:Int) (p:Int×Int),p.1≤(WB t l p).1∧(WB t l p).1≤p.1+t.nodes
 | .mk k n s ks,l,p=>by
  simp only[WB,Tm.nodes];have:=cntL_le ks l (p.1+1,if l > p.2 then l else p.2);split <;> simp at * <;> omega
theorem cntL_le: ∀(ts:List Tm) (l:Int) (p:Int×Int),p.1≤(cntL ts l p).1∧(cntL ts l p).1≤p.1+nodesL ts
 | [],l,p=>by simp[cntL,nodesL]
 | t:: ts,l,p=>by
  simp only[cntL,nodesL];have:=HG t (l+1) p;have:=cntL_le ts l (WB t (l+1) p);split <;> omega
end
theorem GL (t:Tm) (l:Int) (bs:List (List AV)) (i j:Nat) (hi:i < bs.length) (hj:j < bs.length) (hij:i≠j) (hm:t.mass < big) (hl:0≤l∧l+t.depth≤big) (n0 d0:Int)
  (ih: ∀x∈t.kids,∀n d:Int,0≤n→n+x.nodes < 2*big→call F.tb 7 [.agg (Qb x),.int .i64 (l+1),.gp i 0,.gp j 0] (two bs i j n d)=some (.int .i64 (ZI x),two bs i j (WB x (l+1) (n,d)).1 (WB x (l+1) (n,d)).2)):
  ∀(post pre:List Tm) (n d:Int) (ρ:Nat→AV),0≤n→n+nodesL post < 2*big→t.kids=pre ++ post→ρ 57= .sl false 4 (encTs t.kids)→ρ 58= .int .i64 t.kids.length→ρ 59= .int .i64 pre.length→
   ρ 1= .int .i64 l→ρ 2= .gp i 0→ρ 3= .gp j 0→
  R F.tb (.loop F.f7l0) ρ (two bs i j n d) (Qi 1 (Qu F.tb F.f7r0 (Qy F.f7 (two bs i j n0 d0))))=
   some (.int .i64 (errL post),two bs i j (cntL post l (n,d)).1 (cntL post l (n,d)).2):=by
 have hm2:=Qr t;have hdp:=RK t;unfold big at *;have hji:=Ne.symm hij;intro post
 induction post with
 | nil=>
  intro pre n d ρ hn hnb hk h57 h58 h59 h1 h2 h3;rw[Qd F.f7l0.eq_1];simp at hk;simp[h1,h2,h3,h57,h58,h59,← hk,F.f7r0,errL,cntL,T4];rw[List.take_of_length_le (by simp[T4])];exact⟨K1,rfl⟩
 | cons x post IH=>
  intro pre n d ρ hn hnb hk h57 h58 h59 h1 h2 h3;have hg:=QB hk;have hlen:t.kids.length=pre.length+ (post.length+1):=by rw[hk];simp
  simp only[nodesL]at hnb;have hw1:=wr1 pre.length (by omega);have hw2:IntKind.i64.wrap (l+1)=l+1:=Qq (by omega) (by omega);have hlt: (pre.length:Int) < (t.kids.length:Int):=by omega
  have hx:=ih x (by rw[hk];simp) n d hn (by omega);have hc:=HG x (l+1) (n,d);rw[Qd F.f7l0.eq_1];by_cases he:ZI x=0
  ·simp[h1,h2,h3,h57,h58,h59,hg,hw1,hw2,hlt,hx,he];simp only[errL,cntL,he,ne_eq,not_true,if_false];rw[IH (pre ++ [x])] <;> (first | (simp at hc;omega) | simp[h1,h2,h3,h57,h58,h59,hk])
  ·simp[h1,h2,h3,h57,h58,h59,hg,hw1,hw2,hlt,hx,he,errL,cntL];rw[List.take_of_length_le (by simp[T4])];exact⟨K1,rfl⟩
theorem GH: ∀(t:Tm) (l:Int) (bs:List (List AV)) (i j:Nat) (n d:Int),i < bs.length→j < bs.length→i≠j→t.mass < big→0≤l→l+t.depth≤big→0≤n→n+t.nodes < 2*big→
  call F.tb 7 [.agg (Qb t),.int .i64 l,.gp i 0,.gp j 0] (two bs i j n d)=some (.int .i64 (ZI t),two bs i j (WB t l (n,d)).1 (WB t l (n,d)).2):=by
 refine ZU ?_;intro k nm s ks ih l bs i j n d hi hj hij hm hl hld hn hnb;have hm2:=Qr (.mk k nm s ks);have hnn:=ZJ (.mk k nm s ks);have hdp:=RK (.mk k nm s ks);simp only[QX,Zk]at hm2 hnn hdp;have hdl:=depthL_le_nodes ks;have hnm:=nodesL_le_mass ks;have hloop: ∀ρ:Nat→AV,ρ 57= .sl false 4 (encTs ks)→ρ 58= .int .i64 ks.length→ρ 59= .int .i64 0→
   ρ 1= .int .i64 l→ρ 2= .gp i 0→ρ 3= .gp j 0→
  R F.tb (.loop F.f7l0) ρ (two bs i j (n+1) (if l > d then l else d)) (Qi 1 (Qu F.tb F.f7r0 (Qy F.f7 (two bs i j n d))))=
   some (.int .i64 (errL ks),two bs i j (cntL ks l (n+1,if l > d then l else d)).1 (cntL ks l (n+1,if l > d then l else d)).2):=by
  intro ρ h57 h58 h59 h1 h2 h3;refine GL (.mk k nm s ks) l bs i j hi hj hij hm ⟨hl,hld⟩ n d ?_ ks [] (n+1) (if l > d then l else d) ρ (by omega) (by omega) rfl h57 h58 h59 h1 h2 h3;intro x hx n d hn hnb;have h1:=QN hx;have h2:=NL hx;simp only[QX]at h1 h2;exact ih x hx (l+1) bs i j n d hi hj hij (by omega) (by omega) (by omega) hn hnb
 unfold big at hm hnb;have hw:IntKind.i64.wrap (n+1)=n+1:=Qq (by omega) (by omega);have hji:=Ne.symm hij;have htk: ∀(a b:Int),List.take bs.length (two bs i j a b)=two bs i j a b:=fun a b=>List.take_of_length_le (by simp[T4]);have hnl:nm.length < 4611686018427387904:=by omega
 have hks: ((8:Int) < ks.length)=(8 < ks.length):=by rw[eq_iff_iff];omega
 rw[Qa F.tb_7 _ _ rfl];simp (config:={maxSteps:=1000000}) [F.f7C,hw,QaL hi hij,QaM hj,Qay hij,Qaz,T4,IA,hnl,htk,hks];simp only[gt_iff_lt]at hloop;clear ih hm hl hld hn hnb hm2 hnn hdp hdl hnm hw htk hnl hks hi hj hij hji;generalize hdd: (if d < l then l else d)=d' at *;simp only[X5,decide_eq_true_eq,Bool.or_eq_true]
 repeat' split
 all_goals simp only[ZI,WB,W2,Xm,Vl,Zk,QX,gt_iff_lt,hdd]
 all_goals first
  | (rw[hloop] <;> simp[*];done)
  | (simp[*];done)
  | skip
def QD (t:Tm):Int:=if ZI t≠0 then ZI t else if 400 < t.nodes∨40 < t.depth then 3 else 0
mutual
theorem HH: ∀(t:Tm) (l:Int) (p:Int×Int),ZI t=0→WB t l p=(p.1+t.nodes,max p.2 (l+t.depth - 1))
 | .mk k n s ks,l,p,h=>by
  simp only[ZI]at h;split at h
  ·rename_i hne;exact absurd h hne
  ·rename_i hne;simp only[WB,hne,if_false,Tm.nodes,Tm.depth];rw[cntL_ok ks l _ h];refine Prod.ext ?_ ?_
   ·simp;omega
   ·cases ks with
    | nil=>simp[depthL,nodesL];split <;> omega
    | cons t ts=>simp[depthL];split <;> omega
theorem cntL_ok: ∀(ts:List Tm) (l:Int) (p:Int×Int),errL ts=0→cntL ts l p=(p.1+nodesL ts,if ts=[]then p.2 else max p.2 (l+depthL ts))
 | [],l,p,_=>by simp[cntL,nodesL]
 | t:: ts,l,p,h=>by
  simp only[errL]at h;split at h
  ·rename_i hne;exact absurd h hne
  ·rename_i hne;have he:ZI t=0:=by simpa using hne
   simp only[cntL,hne,if_false,nodesL,depthL];rw[cntL_ok ts l _ h,HH t (l+1) p he];refine Prod.ext ?_ ?_
   ·simp;omega
   ·cases ts with
    | nil=>simp[depthL];omega
    | cons u us=>simp[depthL];omega
end
theorem XZ (t:Tm) (bs:List (List AV)) (hm:t.mass < big):call F.tb 6 [.agg (Qb t)] bs=some (.int .i64 (QD t),bs):=by
 have h2:bs ++ [[AV.int .i64 0],[AV.int .i64 0]]=two (bs ++ [[AV.int .i64 0],[AV.int .i64 0]]) bs.length (bs.length+1) 0 0:=by
  simp[two]
 have hn:=YA t;have hd:=Rm t;have hb:big=1099511627776:=rfl;have hc:=GH t 1 (bs ++ [[AV.int .i64 0],[AV.int .i64 0]]) bs.length (bs.length+1) 0 0 (by simp) (by simp) (by omega) hm (by omega) (by omega) (by omega) (by omega);rw[← h2]at hc;have hi:=QaL (bs:=bs ++ [[AV.int .i64 0],[AV.int .i64 0]]) (i:=bs.length) (j:=bs.length+1) (n:=(WB t 1 (0,0)).1) (d:=(WB t 1 (0,0)).2) (by simp) (by omega);have hj:=QaM (bs:=bs ++ [[AV.int .i64 0],[AV.int .i64 0]]) (i:=bs.length) (j:=bs.length+1) (n:=(WB t 1 (0,0)).1) (d:=(WB t 1 (0,0)).2) (by simp);have htk:List.take bs.length (two (bs ++ [[AV.int .i64 0],[AV.int .i64 0]]) bs.length (bs.length+1) (WB t 1 (0,0)).1 (WB t 1 (0,0)).2)=bs:=by
  simp[two]
 have hcnt:=HH t 1 (0,0);rw[Qa F.tb_6 _ _ rfl];simp[F.f6C,hc,hi,hj,htk,QD];by_cases he:ZI t=0
 ·have:=RK t;have e1: (400 < (t.nodes:Int))=(400 < t.nodes):=by rw[eq_iff_iff];omega
  have e2: (40 < (max 0 (1+ (t.depth:Int) - 1)))=(40 < t.depth):=by rw[eq_iff_iff];omega
  simp[he,hcnt he,e1,e2,X5]
 ·simp[he]
end Go.Am
namespace Go.Am
set_option maxRecDepth 8000
theorem RE (a b:Int) (bs:List (List AV)):call F.tb 32 [.int .i64 a,.int .i64 b] bs=some (.int .i64 (sgn a b),bs):=PB a b bs
theorem O4 (a b:List UInt8) (bs:List (List AV)):call F.tb 33 [.str a,.str b] bs=some (.int .i64 (Y7 a b),bs):=by
 rw[ZA F.tb_33];rfl
theorem T5 (t u:Tm) (bs:List (List AV)) (hm:t.mass < big) (hu:u.mass < big)
  (ih: ∀x∈t.kids,∀y bs,y.mass < big→call F.tb 30 [.agg (Qb x),.agg (Qb y)] bs=some (.int .i64 (Qh x y),bs)):
  ∀(xs ys pre pre':List Tm) (c:Int) (ρ:Nat→AV),t.kids=pre ++ xs→u.kids=pre' ++ ys→pre.length=pre'.length→(c=0→xs.length=ys.length)→
   ρ 2= .bx (Qb t)→ρ 3= .bx (Qb u)→ρ 5= .int .i64 c→ρ 6= .int .i64 pre.length→
  R F.tb (.loop F.f30l0) ρ bs (Qi 0 (Qu F.tb F.f30r0 (Qy F.f30 bs)))=some (.int .i64 (or0 c (cmpL xs ys)),bs):=by
 have hm2:=Qr t;have hu2:=Qr u;intro xs
 induction xs with
 | nil=>
  intro ys pre pre' c ρ hk hk' hp hc h2 h3 h5 h6;rw[Qd F.f30l0.eq_1];simp at hk;by_cases h0:c=0
  ·simp[h2,h3,h5,h6,h0,F.f30r0,hk,cmpL,Kh]
  ·simp[h2,h3,h5,h6,h0,F.f30r0,cmpL,Kh]
 | cons x xs IH=>
  intro ys pre pre' c ρ hk hk' hp hc h2 h3 h5 h6;rw[Qd F.f30l0.eq_1];by_cases h0:c=0
  ·obtain⟨y,ys',rfl⟩: ∃y ys',ys=y:: ys':=by
    have:=hc h0;cases ys with
    | nil=>simp at this
    | cons y ys'=>exact⟨y,ys',rfl⟩
   have hg:=QB hk;have hg':=QB hk';rw[← hp]at hg';have hl:t.kids.length=pre.length+ (xs.length+1):=by rw[hk];simp
   have hlt: (pre.length:Int) < (t.kids.length:Int):=by omega
   have hym:y.mass < big:=by have:=QN (x:=y) (ks:=u.kids) (by rw[hk'];simp);omega
   unfold big at hm hu;have hw1:=wr1 pre.length (by omega);simp[h2,h3,h5,h6,h0,hlt,hg,hg',hw1,ih x (by rw[hk];simp) y bs hym];rw[IH ys' (pre ++ [x]) (pre' ++ [y]) (Qh x y)] <;> first | omega | (simp[hk,hk',hp,h2,h3,cmpL,Vr];done) | (intro _;have:=hc h0;simp at this;omega)
  ·simp[h2,h3,h5,h6,h0,F.f30r0,cmpL,Ut]
theorem call_Compare: ∀(t u:Tm) (bs:List (List AV)),t.mass < big→u.mass < big→call F.tb 30 [.agg (Qb t),.agg (Qb u)] bs=some (.int .i64 (Qh t u),bs):=by
 refine ZU ?_;intro k n s ks ih u bs hm hu;have hloop:=T5 (.mk k n s ks) u bs hm hu (fun x hx y bs hy=>ih x hx y bs (by have:=QN hx;have:=Qr (.mk k n s ks);simp at *;omega) hy) ks u.kids [] [] (hdT (.mk k n s ks) u);rw[Qa F.tb_30 _ _ rfl,UN];have hsz:=Ts (.mk k n s ks) bs hm;have hsz':=Ts u bs hu;simp[F.f30C,hsz,hsz',RE,O4];by_cases c1:sgn (Tm.mk k n s ks).nodes u.nodes=0 <;> by_cases c2:sgn k u.kind=0 <;> by_cases c3:Y7 n u.name=0 <;> by_cases c4:sgn s u.sort=0 <;>
  simp[c1,c2,c3,c4,X5] <;> rw[hloop] <;> first | (simp[hdT,c1,c2,c3,c4,Vr,Ut];done) | (simp[hdT,c1,c2,c3,c4,Sn,Vr,Ut];omega) | skip
theorem Gv (t:Tm) (bs:List (List AV)) (hm:t.mass < big) (ih: ∀x∈t.kids,∀bs,call F.tb 60 [.agg (Qb x)] bs=some (.int .i64 x.nodes,bs)):
  ∀(post pre:List Tm) (ρ:Nat→AV),t.kids=pre ++ post→ρ 1= .bx (Qb t)→ρ 4= .int .i64 pre.length→ρ 3= .int .i64 (1+nodesL pre:Nat)→
  R F.tb (.loop F.f60l0) ρ bs (Qi 0 (Qu F.tb F.f60r0 (Qy F.f60 bs)))=some (.int .i64 t.nodes,bs):=by
 have hm2:=Qr t;have hn:=nodesL_le_mass t.kids;unfold big at hm;intro post
 induction post with
 | nil=>
  intro pre ρ hk h1 h4 h3;rw[Qd F.f60l0.eq_1];simp at hk;simp[h1,h3,h4,← hk,F.f60r0,ZJ]
 | cons x post IH=>
  intro pre ρ hk h1 h4 h3;have hg:=QB hk;have hl:=QM hk;have hnn:nodesL t.kids=nodesL pre+ (x.nodes+nodesL post):=by rw[hk,Yz];simp[nodesL]
  have hw1:=wr1 pre.length (by omega);have hw2:IntKind.i64.wrap (1+ (nodesL pre:Int)+ (x.nodes:Int))=1+ (nodesL pre:Int)+ (x.nodes:Int):=Qq (by omega) (by omega);have hlt:=QO hk;rw[Qd F.f60l0.eq_1];simp[h3,h1,h4,hg,hw1,hw2,hlt,ih x (by rw[hk];simp)];rw[IH (pre ++ [x])] <;> simp[h3,h1,h4,hk,Yz,nodesL];omega
theorem RD: ∀(t:Tm) (bs:List (List AV)),t.mass < big→call F.tb 60 [.agg (Qb t)] bs=some (.int .i64 t.nodes,bs):=by
 refine ZU ?_;intro k n s ks ih bs hm;rw[Qa F.tb_60 _ _ rfl];simp[F.f60C];refine Gv (.mk k n s ks) bs hm (fun x hx bs=>ih x hx bs ?_) ks [] _ ?_ ?_ ?_ ?_ <;> (try simp[nodesL]);have:=QN hx;have:=Qr (.mk k n s ks);simp at *;omega
theorem LU (a b:List Tm):depthL (a ++ b)=max (depthL a) (depthL b):=by
 induction a with
 | nil=>simp[depthL]
 | cons t ts ih=>simp[depthL,ih]
theorem Im (t:Tm) (bs:List (List AV)) (hm:t.mass < big) (ih: ∀x∈t.kids,∀bs,call F.tb 61 [.agg (Qb x)] bs=some (.int .i64 x.depth,bs)):
  ∀(post pre:List Tm) (ρ:Nat→AV),t.kids=pre ++ post→ρ 1= .bx (Qb t)→ρ 4= .int .i64 pre.length→ρ 3= .int .i64 (depthL pre:Nat)→
  R F.tb (.loop F.f61l0) ρ bs (Qi 0 (Qu F.tb F.f61r0 (Qy F.f61 bs)))=some (.int .i64 t.depth,bs):=by
 have hm2:=Qr t;have hn:=depthL_le_nodes t.kids;have hn2:=nodesL_le_mass t.kids;unfold big at hm;intro post
 induction post with
 | nil=>
  intro pre ρ hk h1 h4 h3;rw[Qd F.f61l0.eq_1];simp at hk;have hw2:IntKind.i64.wrap ((depthL pre:Int)+1)=(depthL pre:Int)+1:=Qq (by omega) (by rw[← hk];omega);simp[h1,h3,h4,hk,hw2,F.f61r0,RK]
 | cons x post IH=>
  intro pre ρ hk h1 h4 h3;have hg:=QB hk;have hl:=QM hk;have hw1:=wr1 pre.length (by omega);have hlt:=QO hk;rw[Qd F.f61l0.eq_1];simp[h3,h1,h4,hg,hw1,hlt,ih x (by rw[hk];simp)];rw[IH (pre ++ [x])] <;> simp[h3,h1,h4,hk,LU,depthL];split <;> omega
theorem Iv: ∀(t:Tm) (bs:List (List AV)),t.mass < big→call F.tb 61 [.agg (Qb t)] bs=some (.int .i64 t.depth,bs):=by
 refine ZU ?_;intro k n s ks ih bs hm;rw[Qa F.tb_61 _ _ rfl];simp[F.f61C];refine Im (.mk k n s ks) bs hm (fun x hx bs=>ih x hx bs ?_) ks [] _ ?_ ?_ ?_ ?_ <;> (try simp[depthL]);have:=QN hx;have:=Qr (.mk k n s ks);simp at *;omega
theorem KO (a b:Int) (bs:List (List AV)):call F.tb 91 [.int .i64 a,.int .i64 b] bs=some (.int .i64 (sgn a b),bs):=by
 rw[Qa F.tb_91 _ _ rfl];simp[F.f91,F.f91C,sgn]
theorem LK (t u:Tm) (bs:List (List AV)) (hm:t.mass < big) (hu:u.mass < big)
  (ih: ∀x∈t.kids,∀y bs,y.mass < big→call F.tb 90 [.agg (Qb x),.agg (Qb y)] bs=some (.int .i64 (Qh x y),bs)):
  ∀(xs ys pre pre':List Tm) (ρ:Nat→AV),t.kids=pre ++ xs→u.kids=pre' ++ ys→pre.length=pre'.length→xs.length=ys.length→
   ρ 2= .bx (Qb t)→ρ 3= .bx (Qb u)→ρ 9= .int .i64 pre.length→
  R F.tb (.loop F.f90l0) ρ bs (Qi 0 (Qu F.tb F.f90r0 (Qy F.f90 bs)))=some (.int .i64 (cmpL xs ys),bs):=by
 have hm2:=Qr t;have hu2:=Qr u;intro xs
 induction xs with
 | nil=>
  intro ys pre pre' ρ hk hk' hp hc h2 h3 h9;rw[Qd F.f90l0.eq_1];simp at hk;simp[h2,h3,h9,F.f90r0,hk,cmpL]
 | cons x xs IH=>
  intro ys pre pre' ρ hk hk' hp hc h2 h3 h9;rw[Qd F.f90l0.eq_1];obtain⟨y,ys',rfl⟩: ∃y ys',ys=y:: ys':=by
   cases ys with
   | nil=>simp at hc
   | cons y ys'=>exact⟨y,ys',rfl⟩
  have hg:=QB hk;have hg':=QB hk';rw[← hp]at hg';have hl:t.kids.length=pre.length+ (xs.length+1):=by rw[hk];simp
  have hlt: (pre.length:Int) < (t.kids.length:Int):=by omega
  have hym:y.mass < big:=by have:=QN (x:=y) (ks:=u.kids) (by rw[hk'];simp);omega
  unfold big at hm hu;have hw1:=wr1 pre.length (by omega);by_cases h0:Qh x y=0
  ·simp[h2,h3,h9,h0,hlt,hg,hg',hw1,ih x (by rw[hk];simp) y bs hym];rw[IH ys' (pre ++ [x]) (pre' ++ [y])] <;> first | omega | (simp[hk,hk',hp,h0,h2,h3,cmpL,Vr];done) | (simp at hc;omega)
  ·simp[h2,h3,h9,h0,hlt,hg,hg',hw1,ih x (by rw[hk];simp) y bs hym,cmpL,Ut]
theorem LP: ∀(t u:Tm) (bs:List (List AV)),t.mass < big→u.mass < big→call F.tb 90 [.agg (Qb t),.agg (Qb u)] bs=some (.int .i64 (Qh t u),bs):=by
 refine ZU ?_;intro k n s ks ih u bs hm hu;have hloop:=LK (.mk k n s ks) u bs hm hu (fun x hx y bs hy=>ih x hx y bs (by have:=QN hx;have:=Qr (.mk k n s ks);simp at *;omega) hy) ks u.kids [] [];rw[Qa F.tb_90 _ _ rfl,UN];have hsz:=RD (.mk k n s ks) bs hm;have hsz':=RD u bs hu;simp[F.f90C,hsz,hsz',KO];have b0:Y7 n u.name=if Op.bytesLess n u.name then -1 else if(Op.bytesLess n u.name || n == u.name)=false then 1 else 0:=by
  unfold Y7;cases Op.bytesLess n u.name <;> cases hh: (n == u.name) <;> simp
 generalize (n == u.name)=q at *;generalize Op.bytesLess n u.name=p at *;by_cases c1:sgn (Tm.mk k n s ks).nodes u.nodes=0 <;> by_cases c2:sgn k u.kind=0 <;> cases p <;> cases q <;> by_cases c4:sgn s u.sort=0 <;>
  by_cases c6:sgn ks.length u.kids.length=0 <;> simp[c1,c2,c4,c6,X5,hdT,Vr,Ut,b0]
 all_goals (rw[hloop] <;> (try simp) <;> (try (have:=Sn.1 c6;omega)))
theorem RC (t u:Tm) (bs:List (List AV)) (hm:t.mass < big) (hu:u.mass < big):call F.tb 89 [.agg (Qb t),.agg (Qb u)] bs=some (.bool (decide (Qh t u=0)),bs):=by
 rw[Qa F.tb_89 _ _ rfl];simp[F.f89,F.f89C,LP t u bs hm hu]
end Go.Am
namespace Go.Am
set_option maxRecDepth 8000
end Go.Am
namespace Go.Am
set_option maxRecDepth 8000
def V6 (c:UInt8):Bool:=(97≤c.toNat && c.toNat≤122) || (65≤c.toNat && c.toNat≤90)
def Y3 (c:UInt8):Bool:=48≤c.toNat && c.toNat≤57
theorem VT (c:UInt8):X8 c=(V6 c || Y3 c || c.toNat == 95 || c.toNat == 35):=rfl
theorem YP (m n:Nat): ((m:Int)≤(n:Int))=(m≤n):=by rw[eq_iff_iff];omega
theorem SZ (c:UInt8) (bs:List (List AV)):call F.tb 58 [.int .u8 c.toNat] bs=some (.bool (V6 c),bs):=by
 rw[Qa F.tb_58 _ _ rfl];have e1: ((97:Int)≤(c.toNat:Int))=(97≤c.toNat):=YP 97 _;have e2: ((c.toNat:Int)≤122)=(c.toNat≤122):=YP _ 122;have e3: ((65:Int)≤(c.toNat:Int))=(65≤c.toNat):=YP 65 _;have e4: ((c.toNat:Int)≤90)=(c.toNat≤90):=YP _ 90;simp[F.f58,F.f58C,V6,e1,e2,e3,e4]
theorem NF (c:UInt8) (bs:List (List AV)):call F.tb 59 [.int .u8 c.toNat] bs=some (.bool (Y3 c),bs):=by
 rw[Qa F.tb_59 _ _ rfl];have e1: ((48:Int)≤(c.toNat:Int))=(48≤c.toNat):=YP 48 _;have e2: ((c.toNat:Int)≤57)=(c.toNat≤57):=YP _ 57;simp[F.f59,F.f59C,Y3,e1,e2]
theorem PF (n:Nat): ((n:Int)=95)=(n=95):=by rw[eq_iff_iff];omega
theorem PD (n:Nat): ((n:Int)=35)=(n=35):=by rw[eq_iff_iff];omega
theorem Km (s:List UInt8) (bs:List (List AV)) (hs:s.length < 4611686018427387904): ∀(post pre:List UInt8) (ρ:Nat→AV),s=pre ++ post→ρ 0= .str s→ρ 3= .int .i64 pre.length→
  R F.tb (.loop F.f57l0) ρ bs (Qi 0 (Qu F.tb F.f57r0 (Qy F.f57 bs)))=some (.bool (post.all X8),bs):=by
 intro post
 induction post with
 | nil=>
  intro pre ρ hk h0 h3;rw[Qd F.f57l0.eq_1];simp at hk;simp[h0,h3,hk,F.f57r0]
 | cons x post IH=>
  intro pre ρ hk h0 h3;have hg:=QB hk;have hl:=QM hk;have hw1:=wr1 pre.length (by omega);have hlt:=QO hk;rw[Qd F.f57l0.eq_1];cases hp:X8 x
  ·rw[VT]at hp;simp only[Bool.or_eq_false_iff]at hp;obtain⟨⟨⟨p1,p2⟩,p3⟩,p4⟩:=hp;have p3': ¬x.toNat=95:=by simpa using p3
   have p4': ¬x.toNat=35:=by simpa using p4
   simp[h0,h3,hg,hw1,hlt,SZ,NF,p1,p2,p3',p4',PF,PD,VT]
  ·simp[h0,h3,hg,hw1,hlt,SZ,NF,PF,PD,VT,X5];split
   ·rename_i hc;simp[VT,hc]at hp
   ·rw[IH (pre ++ [x])]
    ·simp[VT]at hp;simp[hp]
    ·simp[hk]
    ·simp[h0]
    ·simp
theorem Fb {c:UInt8} (h:V6 c=true):Y3 c=false∧(c.toNat == 95)=false∧(c.toNat == 35)=false:=by
 simp only[V6,Bool.or_eq_true,Bool.and_eq_true,decide_eq_true_eq]at h;refine⟨?_,?_,?_⟩
 ·simp only[Y3,Bool.and_eq_false_iff,decide_eq_false_iff_not];omega
 ·simp;omega
 ·simp;omega
theorem Td (c:UInt8) (r:List UInt8):QP (c:: r)=(decide (r.length < 24) && V6 c && (c:: r).all X8):=by
 have hd: (decide (48≤c.toNat) && decide (c.toNat≤57))=Y3 c:=rfl;simp only[QP,List.all_cons,hd,bne];cases hl:V6 c
 ·rw[VT,hl];cases Y3 c <;> cases (c.toNat == 95) <;> cases (c.toNat == 35) <;> simp
 ·obtain⟨h1,h2,h3⟩:=Fb hl;rw[VT,hl,h1,h2,h3];simp
theorem Sa (s:List UInt8) (bs:List (List AV)) (hs:s.length < 4611686018427387904):call F.tb 57 [.str s] bs=some (.bool (QP s),bs):=by
 rw[Qa F.tb_57 _ _ rfl];cases s with
 | nil=>simp[F.f57C,QP]
 | cons c r=>
  have e1: (24 < (r.length:Int)+1)=¬(r.length < 24):=by rw[eq_iff_iff];omega
  have e2: ((r.length:Int)+1=0)=False:=eq_false (by omega);rw[Td];by_cases h1:r.length < 24 <;> cases h2:V6 c <;>
  simp[F.f57C,SZ,e1,e2,h1,h2,-List.all_cons];rw[Km (c:: r) bs hs (c:: r) []] <;> (try simp)
theorem I1 (c:UInt8) (h:X8 c=true):c < 128:=by
 rw[UInt8.lt_iff_toNat_lt];simp only[X8,Bool.or_eq_true,Bool.and_eq_true,decide_eq_true_eq,beq_iff_eq]at h
 show c.toNat < 128;omega
theorem JC {s:List UInt8} (h:QP s=true):s.all (· < 128)=true:=by
 cases s with
 | nil=>simp[QP]at h
 | cons c r=>
  rw[Td,Bool.and_eq_true]at h;rw[List.all_eq_true]at h ⊢;intro x hx;exact decide_eq_true (I1 x (h.2 x hx))
theorem BK {n:Nat} (h:n < 10): (([48,49,50,51,52,53,54,55,56,57]:List UInt8).take (n+1)).drop n=[(48+n).toUInt8]:=by
 have: ∀n < 10,(([48,49,50,51,52,53,54,55,56,57]:List UInt8).take (n+1)).drop n=[(48+n).toUInt8]:=by decide
 exact this n h
theorem Ev (n:Nat) (bs:List (List AV)) (h:n < 1000000000):call F.tb 18 [.int .i64 n] bs=some (.str (ZN n),bs):=by
 rw[ZA F.tb_18];have h2: -9223372036854775808≤(n:Int)∧(n:Int)≤9223372036854775807:=by omega
 show Option.map _ (Oz [.int .i64 n])=_;unfold Oz;simp only[if_pos h2,Wj];rfl
theorem TJ (s:List UInt8) (n:Int) (bs:List (List AV)):call F.tb 107 [.str s,.int .i64 n] bs=some (.agg (Qb (.mk 2 s n [])),bs):=by
 rw[Qa F.tb_107 _ _ rfl];simp[F.f107,F.f107C,RM]
end Go.Am
namespace Go.Am
set_option maxRecDepth 8000
theorem Y6: ∀a:List UInt8,Op.bytesLess a a=false
 | []=>rfl
 | c:: r=>by simp[Op.bytesLess,Y6 r]
theorem M8 (a:List UInt8):Y7 a a=0:=by simp[Y7,Y6]
theorem Qak (a:Int):sgn a a=0:=Sn.2 rfl
theorem Aa (t:Tm):hdT t t=0:=by simp[hdT,Qak,M8,or0]
mutual
theorem Z3: ∀t:Tm,Qh t t=0
 | .mk k n s ks=>by rw[Qh,Aa,Vr];exact cmpL_refl ks
theorem cmpL_refl: ∀ts:List Tm,cmpL ts ts=0
 | []=>by simp[cmpL]
 | t:: ts=>by rw[cmpL,Z3 t,Vr];exact cmpL_refl ts
end
end Go.Am
namespace Go.Am
set_option maxRecDepth 8000
theorem GM (t:Tm) (bs:List (List AV)) (hm:t.mass < big) (ih: ∀x∈t.kids,∀bs,call F.tb 48 [.agg (Qb x)] bs=some (.agg (Qb x),bs)):
  ∀(post pre:List Tm) (ρ:Nat→AV),t.kids=pre ++ post→ρ 1= .bx [.int .i64 t.kind,.str t.name,.int .i64 t.sort,.sl true 4 (encTs pre)]→ρ 2= .bx [.int .i64 0,.str [],.int .i64 0,.sl true 4 []]→
   ρ 9= .sl false 4 (encTs t.kids)→ρ 10= .int .i64 t.kids.length→ρ 11= .int .i64 pre.length→
  R F.tb (.loop F.f48l0) ρ bs (Qi 0 (Qu F.tb F.f48r0 (Qy F.f48 bs)))=some (.agg (Qb t),bs):=by
 have hm2:=Qr t;unfold big at hm;intro post
 induction post with
 | nil=>
  intro pre ρ hk h1 h2 h9 h10 h11;rw[Qd F.f48l0.eq_1];simp at hk;rw[← hk]at h1 h11;simp[h1,h2,h9,h10,h11,F.f48r0,V3,Tm.eta]
 | cons x post IH=>
  intro pre ρ hk h1 h2 h9 h10 h11;have hg:=QB hk;have hl:=QM hk;have hw1:=wr1 pre.length (by omega);have hlt:=QO hk;have ha: (pre.length+1)*56≤140737488355328:=by omega
  rw[Qd F.f48l0.eq_1];simp[h1,h2,h9,h10,h11,hg,hw1,hlt,ha,ih x (by rw[hk];simp),XC,Yg];rw[IH (pre ++ [x])] <;> simp[h2,h9,h10,hk]
theorem TK: ∀(t:Tm) (bs:List (List AV)),t.mass < big→call F.tb 48 [.agg (Qb t)] bs=some (.agg (Qb t),bs):=by
 refine ZU ?_;intro k n s ks ih bs hm;rw[Qa F.tb_48 _ _ rfl];simp[F.f48C,Qb];refine GM (.mk k n s ks) bs hm (fun x hx bs=>ih x hx bs ?_) ks [] _ ?_ ?_ ?_ ?_ ?_ ?_ <;> (try simp[encTs]);have:=QN hx;have:=Qr (.mk k n s ks);simp at *;omega
theorem Bp (t:Tm) (bs:List (List AV)) (hm:t.mass < big) (o:Bool):call F.tb 47 [.agg (Qb t),.sl o 1 []] bs=some (.tup [.agg (Qb t),.int .i64 0],bs):=by
 rw[Qa F.tb_47 _ _ rfl];simp[F.f47C];rw[Qd F.f47l0.eq_1];simp[F.f47r0,TK t bs hm]
theorem KS (n:List UInt8) (ks:List Tm) (o:Bool) (bs:List (List AV)):call F.tb 49 [.str n,.sl o 4 (encTs ks)] bs=some (.agg (Qb (.mk 3 n 0 ks)),bs):=by
 rw[Qa F.tb_49 _ _ rfl];simp[F.f49,F.f49C,V3]
structure Sy where
 n:List UInt8
 l:Int
 m:Int
 k:Int
def XW (s:Sy):List AV:=[.str s.n,.int .i64 s.l,.int .i64 s.m,.int .i64 s.k]
def Z6:List Sy:=[⟨[112,97,105,114],2,2,1⟩,⟨[101,110,99],2,2,1⟩,⟨[97,101,110,99],2,2,1⟩,⟨[112,107],1,1,1⟩,⟨[115,105,103,110],2,2,1⟩,⟨[104,97,115,104],1,1,1⟩,
 ⟨[120,111,114],2,8,1⟩,⟨[122,101,114,111],0,0,1⟩,⟨[101,120,112],2,2,1⟩,⟨[109,117,108],2,8,1⟩,⟨[105,110,118],1,1,1⟩,⟨[111,110,101],0,0,1⟩,
 ⟨[115,107],1,1,2⟩,⟨[115,104,107],2,2,2⟩,⟨[110,101,119],1,8,2⟩,⟨[102,115,116],1,1,3⟩,⟨[115,110,100],1,1,3⟩,⟨[100,101,99],2,2,3⟩,⟨[97,100,101,99],2,2,3⟩,⟨[111,112,101,110],2,2,3⟩,⟨[114,101,97,100],1,1,3⟩]
def Xu (ys:List Sy):List (List AV):=ys.map XW
@[simp] theorem LW (ys:List Sy):gpfreeE (Xu ys)=true:=by
 induction ys with
 | nil=>rfl
 | cons y ys ih=>simpa[Xu,XW,gpfreeE,gpfreeL,AV.gpfree]using ih
@[simp] theorem QfO (ys:List Sy): (Xu ys).length=ys.length:=by simp[Xu]
theorem KR (k l m:Int) (n:List UInt8) (ys:List Sy) (bs:List (List AV)) (hx:ys.length < 1000):
  call F.tb 45 [.int .i64 k,.str n,.int .i64 l,.int .i64 m,.gp bs.length 0] (bs ++ [[.sl true 4 (Xu ys)]])=some (.tup [],bs ++ [[.sl true 4 (Xu (ys ++ [⟨n,l,m,k⟩]))]]):=by
 rw[Qa F.tb_45 _ _ rfl];have ha: (ys.length+1)*40≤140737488355328:=by omega
 have h1:Xu (ys ++ [⟨n,l,m,k⟩])=Xu ys ++ [[.str n,.int .i64 l,.int .i64 m,.int .i64 k]]:=by simp[Xu,XW]
 have h2:gpfreeE (Xu ys ++ [[.str n,.int .i64 l,.int .i64 m,.int .i64 k]])=true:=by rw[← h1];exact LW _
 simp[F.f45,F.f45C,ha,h1,h2,List.take_of_length_le,gpfreeL]
theorem EC (k l m:Int) (n:List UInt8) (bs:List (List AV)):
  call F.tb 45 [.int .i64 k,.str n,.int .i64 l,.int .i64 m,.gp bs.length 0] (bs ++ [[.sl true 4 []]])=some (.tup [],bs ++ [[.sl true 4 (Xu [⟨n,l,m,k⟩])]]):=KR k l m n [] bs (by simp)
theorem KP (bs:List (List AV)):call F.tb 44 [] bs=some (.sl false 4 (Xu Z6),bs):=by
 rw[Qa F.tb_44 _ _ rfl];simp only[F.f44,F.f44C];simp[EC,KR,Z6]
def Q4 (n:List UInt8):List Sy→Option Sy
 | []=>none
 | s:: ss=>if s.n=n then some s else Q4 n ss
theorem PR {l:List Sy} {pre post:List Sy} {s:Sy} (h:l=pre ++ s:: post): (Xu l)[pre.length]? =some (XW s):=by
 subst h;simp[Xu]
theorem Hh (n:List UInt8) (l:List Sy) (bs:List (List AV)) (hn:l.length < 1000):
  ∀(post pre:List Sy) (ρ:Nat→AV),l=pre ++ post→ρ 0= .str n→ρ 2= .bx [.str [],.int .i64 0,.int .i64 0,.int .i64 0]→
   ρ 5= .sl false 4 (Xu l)→ρ 6= .int .i64 l.length→ρ 7= .int .i64 pre.length→
  R F.tb (.loop F.f43l0) ρ bs (Qi 0 (Qu F.tb F.f43r0 (Qy F.f43 bs)))=
   some (.agg (match Q4 n post with | some s=>XW s | none=>[.str [],.int .i64 0,.int .i64 0,.int .i64 0]),bs):=by
 intro post
 induction post with
 | nil=>
  intro pre ρ hk h0 h2 h5 h6 h7;rw[Qd F.f43l0.eq_1];simp at hk;rw[← hk]at h7;simp[h0,h2,h5,h6,h7,F.f43r0,Q4]
 | cons x post IH=>
  intro pre ρ hk h0 h2 h5 h6 h7;have hg:=PR hk;have hl:=QM hk;have hw1:=wr1 pre.length (by omega);have hlt:=QO hk;rw[Qd F.f43l0.eq_1];by_cases hx:x.n=n
  ·simp[h0,h2,h5,h6,h7,hg,hw1,hlt,XW,hx,Q4]
  ·have hxb: (x.n == n)=false:=by simp[hx]
   simp[h0,h2,h5,h6,h7,hg,hw1,hlt,XW,hx,hxb,Q4];rw[IH (pre ++ [x])] <;> simp[h0,h2,h5,h6,hk,XW]
theorem Xb (n:List UInt8) (bs:List (List AV)):call F.tb 43 [.str n] bs=some (.agg (match Q4 n Z6 with | some s=>XW s | none=>[.str [],.int .i64 0,.int .i64 0,.int .i64 0]),bs):=by
 rw[Qa F.tb_43 _ _ rfl];simp[F.f43C,KP];refine Hh n Z6 bs (by simp[Z6]) Z6 [] _ rfl ?_ ?_ ?_ ?_ ?_ <;> simp
end Go.Am
