/-
  Am21, Am22, Am23, Ge1, Ge2, Ge3, Ge4, Ge5, Ge6, Ge10, Ge11.
-/
import Derived.Test.YtpgbndmkiiakaaaGreatDoorG09
import Derived.Test.YtpgbndmkiiakaaaGreatDoorG13
set_option linter.unusedVariables false
set_option linter.unusedSimpArgs false
namespace Go.Am
abbrev Out:=Option (AV×List (List AV))
abbrev Kn:=Ex→St→Out
section
variable {T:Nat→Option AFn}
noncomputable def R (T:Nat→Option AFn) (c:AC) (ρ:Nat→AV) (bs:List (List AV)) (k:Kn):Out:=match run T c ⟨ρ,bs⟩with
 | some (e,s)=>k e s
 | none=>none
noncomputable def O (T:Nat→Option AFn) (os:List Qs) (ρ:Nat→AV) (bs:List (List AV)) (k:Kn):Out:=match ZE (call T) os ⟨ρ,bs⟩with
 | some s=>k .normal s
 | none=>none
noncomputable def E (T:Nat→Option AFn) (r:Option (AV×St)) (d:Option Nat) (os:List Qs) (k:Kn):Out:=match r with
 | some p=>O T os (Ye p.2.env d p.1) p.2.bs k
 | none=>none
def YS (c b:Bool) (x y:Out):Out:=if c=b then x else y
noncomputable def Qr (T:Nat→Option AFn) (b:AC) (k:Kn):Kn:=fun e s=>match e with
 | .normal=>match run T b s with
  | some (e,s)=>k e s
  | none=>none
 | e=>k e s
def Ql (id:Nat) (k:Kn):Kn:=fun e s=>match e with
 | .exit i=>k (if i=id then .normal else .exit i) s
 | e=>k e s
def Qt (fn:Qk) (n:List (List AV)):Kn:=fun e s=>match e with
 | .normal=>YK fn n s
 | .ret=>YK fn n s
 | .exit _=>none
theorem MF (x y:Out):YS true true x y=x:=rfl
theorem Hn (x y:Out):YS false false x y=x:=rfl
theorem Ho (x y:Out):YS true false x y=y:=rfl
theorem ME (x y:Out):YS false true x y=y:=rfl
theorem D5 (c b:Bool) (x:Out):YS c b x x=x:=by unfold YS;split <;> rfl
theorem Qam (c b:Bool) (x y:Out):YS (!c) b x y=YS c (!b) x y:=by cases c <;> cases b <;> rfl
theorem XF (c b:Bool) (x y:Out):YS c b x y=if c=b then x else y:=rfl
theorem QkT (ρ:Nat→AV) (bs:List (List AV)) (k:Kn):R T .skip ρ bs k=k .normal ⟨ρ,bs⟩:=by simp only[R,Dm]
theorem QnM (ρ:Nat→AV) (bs:List (List AV)) (k:Kn):R T .ret ρ bs k=k .ret ⟨ρ,bs⟩:=by simp only[R,Ac]
theorem QkR (id:Nat) (ρ:Nat→AV) (bs:List (List AV)) (k:Kn):R T (.exit id) ρ bs k=k (.exit id) ⟨ρ,bs⟩:=by simp only[R,Dk]
theorem QgS (d:Bool) (ops:List Qs) (ρ:Nat→AV) (bs:List (List AV)) (k:Kn):R T (.reg d ops) ρ bs k=O T ops ρ bs k:=by
 simp only[R,O,Ab];cases ZE (call T) ops ⟨ρ,bs⟩ <;> rfl
theorem Ts (a b:AC) (ρ:Nat→AV) (bs:List (List AV)) (k:Kn):R T (.seq a b) ρ bs k=R T a ρ bs (Qr T b k):=by
 simp only[R,Ad];cases run T a ⟨ρ,bs⟩with
 | none=>rfl
 | some x=>
  obtain⟨e,s⟩:=x;cases e <;> rfl
theorem Cr (id:Nat) (c:AC) (ρ:Nat→AV) (bs:List (List AV)) (k:Kn):R T (.block id c) ρ bs k=R T c ρ bs (Ql id k):=by
 simp only[R,HD];cases run T c ⟨ρ,bs⟩with
 | none=>rfl
 | some x=>
  obtain⟨e,s⟩:=x;cases e <;> rfl
theorem QkS (c:AC) (ρ:Nat→AV) (bs:List (List AV)) (k:Kn):R T (.loop c) ρ bs k=R T c ρ bs (Qr T (.loop c) k):=by
 simp only[R];rw[Dl];cases run T c ⟨ρ,bs⟩with
 | none=>rfl
 | some x=>
  obtain⟨e,s⟩:=x;cases e <;> rfl
theorem Cj (b:AC) (k:Kn) (ρ:Nat→AV) (bs:List (List AV)):Qr T b k .normal ⟨ρ,bs⟩=R T b ρ bs k:=rfl
theorem Qgy (b:AC) (k:Kn) (s:St):Qr T b k .ret s=k .ret s:=rfl
theorem Qey (b:AC) (k:Kn) (s:St) (id:Nat):Qr T b k (.exit id) s=k (.exit id) s:=rfl
theorem HN (id:Nat) (k:Kn) (s:St):Ql id k .normal s=k .normal s:=rfl
theorem AP (id:Nat) (k:Kn) (s:St):Ql id k .ret s=k .ret s:=rfl
theorem DL (id:Nat) (k:Kn) (s:St):Ql id k (.exit id) s=k .normal s:=by simp[Ql]
theorem D0 (fn:Qk) (k:List (List AV)) (s:St):Qt fn k .normal s=YK fn k s:=rfl
theorem QfM (fn:Qk) (k:List (List AV)) (s:St):Qt fn k .ret s=YK fn k s:=rfl
noncomputable def A9 (T:Nat→Option AFn) (v:AV) (n:Nat) (a b:AC) (ρ:Nat→AV) (bs:List (List AV)) (k:Kn):Out:=match v with
 | .bool c=>YS c true (R T a (upd ρ n (.bool true)) bs k) (R T b (upd ρ n (.bool false)) bs k)
 | _=>none
theorem W0 {ρ:Nat→AV} {n:Nat} {v:AV} (h:ρ n=v):upd ρ n v=ρ:=by
 funext j;unfold upd;split
 ·rename_i hj;rw[hj,h]
 ·rfl
theorem QkQ (n:Nat) (a b:AC) (ρ:Nat→AV) (bs:List (List AV)) (k:Kn):R T (.cond (.t n) a b) ρ bs k=A9 T (ρ n) n a b ρ bs k:=by
 simp only[R,Dj,val,A9];cases h:ρ n <;> try rfl
 rename_i c;cases c
 ·simp only[AV.strip,ME,W0 h]
 ·simp only[AV.strip,MF,W0 h]
theorem Qaa (c:Bool) (n:Nat) (a b:AC) (ρ:Nat→AV) (bs:List (List AV)) (k:Kn):
  A9 T (.bool c) n a b ρ bs k=YS c true (R T a (upd ρ n (.bool true)) bs k) (R T b (upd ρ n (.bool false)) bs k):=rfl
theorem QnL (ρ:Nat→AV) (bs:List (List AV)) (k:Kn):O T [] ρ bs k=k .normal ⟨ρ,bs⟩:=rfl
theorem QkO (d:Option Nat) (op:AOp) (os:List Qs) (ρ:Nat→AV) (bs:List (List AV)) (k:Kn):
  O T (⟨d,op,none⟩:: os) ρ bs k=E T (Qh (call T) op ⟨ρ,bs⟩) d os k:=by
 simp only[O,E,ZE,ZH];cases Qh (call T) op ⟨ρ,bs⟩ <;> rfl
noncomputable def Jc (T:Nat→Option AFn) (v:AV) (t:Nat) (b:Bool) (d:Option Nat) (op:AOp) (os:List Qs) (ρ:Nat→AV) (bs:List (List AV)) (k:Kn):Out:=match v with
 | .bool c=>YS c b (E T (Qh (call T) op ⟨upd ρ t (.bool b),bs⟩) d os k) (O T os (Ye (upd ρ t (.bool (!b))) d (.tup [])) bs k)
 | .tup []=>O T os (Ye ρ d (.tup [])) bs k
 | _=>none
theorem W5 (d:Option Nat) (op:AOp) (t:Nat) (b:Bool) (os:List Qs) (ρ:Nat→AV) (bs:List (List AV)) (k:Kn):
  O T (⟨d,op,some (t,b)⟩:: os) ρ bs k=Jc T (ρ t) t b d op os ρ bs k:=by
 simp only[O,ZE,ZH,Jc];cases h:ρ t <;> try rfl
 ·rename_i c;by_cases hcb:c=b
  ·subst hcb;simp only[YS,if_true,W0 h,E];cases Qh (call T) op ⟨ρ,bs⟩ <;> rfl
  ·have hcb2:c= !b:=by cases c <;> cases b <;> simp_all
   subst hcb2;simp only[YS,hcb,if_false,W0 h];rfl
 ·rename_i vs;cases vs <;> rfl
theorem Vq (c:Bool) (t:Nat) (b:Bool) (d:Option Nat) (op:AOp) (os:List Qs) (ρ:Nat→AV) (bs:List (List AV)) (k:Kn):
  Jc T (.bool c) t b d op os ρ bs k=YS c b (E T (Qh (call T) op ⟨upd ρ t (.bool b),bs⟩) d os k) (O T os (Ye (upd ρ t (.bool (!b))) d (.tup [])) bs k):=rfl
theorem Jd (t:Nat) (b:Bool) (d:Option Nat) (op:AOp) (os:List Qs) (ρ:Nat→AV) (bs:List (List AV)) (k:Kn):
  Jc T (.tup []) t b d op os ρ bs k=O T os (Ye ρ d (.tup [])) bs k:=rfl
theorem QkJ (v:AV) (ρ:Nat→AV) (bs:List (List AV)) (d:Nat) (os:List Qs) (k:Kn):E T (some (v,⟨ρ,bs⟩)) (some d) os k=O T os (upd ρ d v) bs k:=rfl
theorem Qhi (v:AV) (ρ:Nat→AV) (bs:List (List AV)) (os:List Qs) (k:Kn):E T (some (v,⟨ρ,bs⟩)) none os k=O T os ρ bs k:=rfl
theorem QkI (d:Option Nat) (os:List Qs) (k:Kn):E T none d os k=none:=rfl
theorem QeA (ρ:Nat→AV) (d:Nat) (v:AV):Ye ρ (some d) v=upd ρ d v:=rfl
theorem Qez (ρ:Nat→AV) (v:AV):Ye ρ none v=ρ:=rfl
theorem Qb {f:Nat} {fn:Qk} (h:T f=some (.code fn)) (args:List AV) (bs:List (List AV)) (hl:args.length=fn.nparams):
  call T f args bs=R T fn.body (Y3 args) bs (Qt fn bs):=by
 rw[Iw,h];simp only[hl,if_true,R];cases run T fn.body ⟨Y3 args,bs⟩with
 | none=>rfl
 | some x=>
  obtain⟨e,s⟩:=x;cases e <;> rfl
theorem Xv {f:Nat} {g:List AV→List (List AV)→Option (AV×List (List AV))} (h:T f=some (.orc g)) (args:List AV) (bs:List (List AV)):call T f args bs=g args bs:=by
 rw[Iw,h]
theorem Qe8 (a:AV) (aq:List AV):Y3 (a:: aq) 0=a.strip:=rfl
theorem DJ (a:AV) (aq:List AV) (i:Nat):Y3 (a:: aq) (i+1)=Y3 aq i:=rfl
theorem VN (ρ:Nat→AV) (i:Nat) (v:AV):upd ρ i v i=v:=by simp[upd]
variable {K:ZX} (ρ:Nat→AV) (bs:List (List AV))
theorem Qom (n:Nat):val ρ (.t n)=(ρ n).strip:=rfl
theorem Qol (v:AV):val ρ (.c v)=v:=rfl
end
end Go.Am
namespace Go.Am
section
variable {T:Nat→Option AFn}
def Rf (b:Bool):AV→Bool
 | .bool c=>c == !b
 | .tup []=>true
 | _=>false
noncomputable def O2 (T:Nat→Option AFn) (c:Bool) (_t:Nat) (b:Bool) (os:List Qs) (ρ1 ρ2:Nat→AV) (bs1 bs2:List (List AV)) (k:Kn):Out:=
 if c=b then O T os ρ1 bs1 k else O T os ρ2 bs2 k
noncomputable def E2 (T:Nat→Option AFn) (c:Bool) (_t:Nat) (b:Bool) (r:Option (AV×St)) (d:Option Nat) (os:List Qs) (ρ2:Nat→AV) (bs2:List (List AV)) (k:Kn):Out:=
 if c=b then E T r d os k else O T os (Ye ρ2 d (.tup [])) bs2 k
def Z7 (c b:Bool) (x y:AV):AV:=if c=b then x else y
def KA (c b:Bool) (x y:List (List AV)):List (List AV):=if c=b then x else y
def mrg (c b:Bool) (ρ1 ρ2:Nat→AV):Nat→AV:=fun j=>Z7 c b (ρ1 j) (ρ2 j)
theorem Qj6 (c b:Bool) (ρ1 ρ2:Nat→AV) (j:Nat):mrg c b ρ1 ρ2 j=Z7 c b (ρ1 j) (ρ2 j):=rfl
theorem Cq (c:Bool) (t:Nat) (b:Bool) (os:List Qs) (ρ1 ρ2:Nat→AV) (bs1 bs2:List (List AV)) (k:Kn):
  O2 T c t b os ρ1 ρ2 bs1 bs2 k=O T os (mrg c b ρ1 ρ2) (KA c b bs1 bs2) k:=by
 unfold O2;split
 ·rename_i h;have:mrg c b ρ1 ρ2=ρ1:=by funext j;simp[mrg,Z7,h]
  rw[this,KA,if_pos h]
 ·rename_i h;have:mrg c b ρ1 ρ2=ρ2:=by funext j;simp[mrg,Z7,h]
  rw[this,KA,if_neg h]
theorem QkN (c:Bool) (t:Nat) (b:Bool) (ρ1 ρ2:Nat→AV) (bs1 bs2:List (List AV)) (k:Kn):
  O2 T c t b [] ρ1 ρ2 bs1 bs2 k=O T [] (mrg c b ρ1 ρ2) (KA c b bs1 bs2) k:=Cq c t b [] ρ1 ρ2 bs1 bs2 k
theorem Qhk (c:Bool) (t:Nat) (b:Bool) (d:Option Nat) (op:AOp) (os:List Qs) (ρ1 ρ2:Nat→AV) (bs1 bs2:List (List AV)) (k:Kn):
  O2 T c t b (⟨d,op,none⟩:: os) ρ1 ρ2 bs1 bs2 k=O T (⟨d,op,none⟩:: os) (mrg c b ρ1 ρ2) (KA c b bs1 bs2) k:=Cq c t b _ ρ1 ρ2 bs1 bs2 k
theorem QeY (c:Bool) (t:Nat) (b:Bool) (d:Option Nat) (op:AOp) (t':Nat) (b':Bool) (os:List Qs) (ρ1 ρ2:Nat→AV) (bs1 bs2:List (List AV)) (k:Kn) (_h: ((t' == t) && (b' == b))=false):
  O2 T c t b (⟨d,op,some (t',b')⟩:: os) ρ1 ρ2 bs1 bs2 k=YS c b (O T (⟨d,op,some (t',b')⟩:: os) ρ1 bs1 k) (O T (⟨d,op,some (t',b')⟩:: os) ρ2 bs2 k):=by
 unfold O2 YS;rfl
theorem Qhl (c:Bool) (t:Nat) (b:Bool) (d:Option Nat) (op:AOp) (os:List Qs) (ρ1 ρ2:Nat→AV) (bs1 bs2:List (List AV)) (k:Kn) (h1:ρ1 t= .bool b) (h2:Rf b (ρ2 t)=true):
  O2 T c t b (⟨d,op,some (t,b)⟩:: os) ρ1 ρ2 bs1 bs2 k=E2 T c t b (Qh (call T) op ⟨ρ1,bs1⟩) d os ρ2 bs2 k:=by
 unfold O2 E2;split
 ·rw[W5,h1,Vq,XF,if_pos rfl,W0 h1]
 ·rw[W5];unfold Rf at h2;split at h2
  ·rename_i c hc;rw[hc,Vq];simp only[beq_iff_eq]at h2;subst h2;rw[XF,if_neg (by cases b <;> simp),W0 hc]
  ·rename_i hc;rw[hc,Jd]
  ·cases h2
theorem Qhh (c:Bool) (t:Nat) (b:Bool) (v:AV) (ρ1:Nat→AV) (bs1:List (List AV)) (d:Option Nat) (os:List Qs) (ρ2:Nat→AV) (bs2:List (List AV)) (k:Kn):
  E2 T c t b (some (v,⟨ρ1,bs1⟩)) d os ρ2 bs2 k=O2 T c t b os (Ye ρ1 d v) (Ye ρ2 d (.tup [])) bs1 bs2 k:=rfl
noncomputable def G (T:Nat→Option AFn) (v:AV) (d:Option Nat) (op:AOp) (t:Nat) (b:Bool) (os:List Qs) (ρ:Nat→AV) (bs:List (List AV)) (k:Kn):Out:=match v with
 | .bool c=>O2 T c t b (⟨d,op,some (t,b)⟩:: os) (upd ρ t (.bool b)) (upd ρ t (.bool (!b))) bs bs k
 | .tup []=>O T os (Ye (upd ρ t (.tup [])) d (.tup [])) bs k
 | _=>none
theorem Pa (c:Bool) (d:Option Nat) (op:AOp) (t:Nat) (b:Bool) (os:List Qs) (ρ:Nat→AV) (bs:List (List AV)) (k:Kn):
  G T (.bool c) d op t b os ρ bs k=O2 T c t b (⟨d,op,some (t,b)⟩:: os) (upd ρ t (.bool b)) (upd ρ t (.bool (!b))) bs bs k:=rfl
theorem QgR (d:Option Nat) (op:AOp) (t:Nat) (b:Bool) (os:List Qs) (ρ:Nat→AV) (bs:List (List AV)) (k:Kn):
  G T (.tup []) d op t b os ρ bs k=O T os (Ye (upd ρ t (.tup [])) d (.tup [])) bs k:=rfl
theorem Qhm (d:Option Nat) (op:AOp) (t:Nat) (b:Bool) (os:List Qs) (ρ:Nat→AV) (bs:List (List AV)) (k:Kn):
  O T (⟨d,op,some (t,b)⟩:: os) ρ bs k=G T (ρ t) d op t b os ρ bs k:=by
 cases h:ρ t <;> try (rw[W5,h];rfl)
 ·rename_i c;rw[Pa];unfold O2;by_cases hcb:c=b
  ·subst hcb;simp[W0 h]
  ·have hcb2:c= !b:=by cases c <;> cases b <;> simp_all
   subst hcb2;rw[W0 h,if_neg hcb]
 ·rename_i vs;cases vs with
  | nil=>rw[QgR,W5,h,Jd,W0 h]
  | cons v vs=>rw[W5,h];rfl
theorem QkM (d:Option Nat) (op:AOp) (t:Nat) (os:List Qs) (ρ:Nat→AV) (bs:List (List AV)) (k:Kn):
  G T (.bool true) d op t true os ρ bs k=E T (Qh (call T) op ⟨upd ρ t (.bool true),bs⟩) d os k:=by
 rw[Pa];unfold O2;rw[if_pos rfl,W5,VN,Vq,MF,W0 (VN _ _ _)]
theorem Qhj (d:Option Nat) (op:AOp) (t:Nat) (os:List Qs) (ρ:Nat→AV) (bs:List (List AV)) (k:Kn):
  G T (.bool false) d op t false os ρ bs k=E T (Qh (call T) op ⟨upd ρ t (.bool false),bs⟩) d os k:=by
 rw[Pa];unfold O2;rw[if_pos rfl,W5,VN,Vq,Hn,W0 (VN _ _ _)]
theorem Qov (d:Option Nat) (op:AOp) (t:Nat) (os:List Qs) (ρ:Nat→AV) (bs:List (List AV)) (k:Kn):
  G T (.bool true) d op t false os ρ bs k=O T os (Ye (upd ρ t (.bool true)) d (.tup [])) bs k:=by
 rw[Pa];unfold O2;rw[if_neg (by simp),W5,VN];simp only[Vq,Ho,Bool.not_false];rw[W0 (VN _ _ _)]
theorem Qou (d:Option Nat) (op:AOp) (t:Nat) (os:List Qs) (ρ:Nat→AV) (bs:List (List AV)) (k:Kn):
  G T (.bool false) d op t true os ρ bs k=O T os (Ye (upd ρ t (.bool false)) d (.tup [])) bs k:=by
 rw[Pa];unfold O2;rw[if_neg (by simp),W5,VN];simp only[Vq,ME,Bool.not_true];rw[W0 (VN _ _ _)]
theorem Qev (c b:Bool) (x:AV):Z7 c b x x=x:=by unfold Z7;split <;> rfl
theorem Qes (c b:Bool) (x:List (List AV)):KA c b x x=x:=by unfold KA;split <;> rfl
theorem Qnj (c b:Bool) (x y z:AV):Z7 c b (Z7 c b x y) z=Z7 c b x z:=by unfold Z7;split <;> simp_all
theorem Qnk (c b:Bool) (x y z:AV):Z7 c b x (Z7 c b y z)=Z7 c b x z:=by unfold Z7;split <;> simp_all
theorem Qkt (c:Bool) (x y z:AV):Z7 c true (Z7 c false x y) z=Z7 c true y z:=by cases c <;> rfl
theorem Qku (c:Bool) (x y z:AV):Z7 c true x (Z7 c false y z)=Z7 c true x y:=by cases c <;> rfl
theorem Qkq (c:Bool) (x y z:AV):Z7 c false (Z7 c true x y) z=Z7 c false y z:=by cases c <;> rfl
theorem Qkr (c:Bool) (x y z:AV):Z7 c false x (Z7 c true y z)=Z7 c false x y:=by cases c <;> rfl
theorem Qex (c:Bool) (x y:AV):Z7 c false x y=Z7 c true y x:=by cases c <;> rfl
theorem Qgw (x y:AV):Z7 true true x y=x:=rfl
theorem Qeu (x y:AV):Z7 false true x y=y:=rfl
theorem Qet (c x y:Bool):Z7 c true (.bool x) (.bool y)= .bool (bif c then x else y):=by cases c <;> rfl
theorem Qgv (c:Bool) (k:IntKind) (x y:Int):Z7 c true (.int k x) (.int k y)= .int k (bif c then x else y):=by cases c <;> rfl
theorem QaX (c b:Bool) (x y:AV): (Z7 c b x y).strip=Z7 c b x.strip y.strip:=by unfold Z7;split <;> rfl
theorem Qks (c b:Bool) (x y:AV): (Z7 c b x y).ok=if c=b then x.ok else y.ok:=by unfold Z7;split <;> rfl
theorem Qgx (c b:Bool) (x y:AV): (Z7 c b x y).one=if c=b then x.one else y.one:=by unfold Z7;split <;> rfl
theorem Qew (c b d:Bool) (x y:AV):Rf d (Z7 c b x y)=if c=b then Rf d x else Rf d y:=by unfold Z7;split <;> rfl
theorem D9 (c b:Bool):Rf b (.bool c)=(c == !b):=rfl
theorem Qar (b:Bool):Rf b (.tup [])=true:=rfl
def QaD (v x y:AV) (s:St):Option (AV×St):=match v with
 | .bool c=>let v:=Z7 c true x y;if v.ok then some (v,s)else none
 | _=>none
theorem Qmu {K:ZX} (c a b:AO) (ρ:Nat→AV) (bs:List (List AV)):Qh K (.pick c a b) ⟨ρ,bs⟩=QaD (val ρ c) (val ρ a) (val ρ b) ⟨ρ,bs⟩:=by
 simp only[Qh,QaD];cases val ρ c <;> try rfl
 rename_i x;cases x <;> rfl
theorem QaE (c:Bool) (x y:AV) (s:St):QaD (.bool c) x y s=if(Z7 c true x y).ok then some (Z7 c true x y,s)else none:=rfl
end
end Go.Am
namespace Go.Am
theorem QkD (ρ:Nat→AV) (i:Nat) (v:AV) (j:Nat):upd ρ i v j=if j=i then v else ρ j:=rfl
theorem H2:AV.strip (.undef)= .undef:=rfl
theorem QaO:AV.ok (.undef)=false:=rfl
theorem Cd:AV.one (.undef)=false:=rfl
theorem Cc:AV.gpfree (.undef)=true:=rfl
theorem Cg (k:IntKind) (n:Int):AV.strip (.int k n)= .int k n:=rfl
theorem Qgl (k:IntKind) (n:Int):AV.ok (.int k n)=true:=rfl
theorem Qep (k:IntKind) (n:Int):AV.one (.int k n)=true:=rfl
theorem Qeh (k:IntKind) (n:Int):AV.gpfree (.int k n)=true:=rfl
theorem Do (b:Bool):AV.strip (.bool b)= .bool b:=rfl
theorem Qel (b:Bool):AV.ok (.bool b)=true:=rfl
theorem QaQ (b:Bool):AV.one (.bool b)=true:=rfl
theorem QaM (b:Bool):AV.gpfree (.bool b)=true:=rfl
theorem Dn:AV.strip (.anyb)= .anyb:=rfl
theorem Qek:AV.ok (.anyb)=true:=rfl
theorem QaP:AV.one (.anyb)=true:=rfl
theorem QaL:AV.gpfree (.anyb)=true:=rfl
theorem Ch (s:List UInt8):AV.strip (.str s)= .str s:=rfl
theorem Qgm (s:List UInt8):AV.ok (.str s)=true:=rfl
theorem Qeq (s:List UInt8):AV.one (.str s)=true:=rfl
theorem Qei (s:List UInt8):AV.gpfree (.str s)=true:=rfl
theorem Ce (cs:List AV):AV.strip (.agg cs)= .agg cs:=rfl
theorem Qgj (cs:List AV):AV.ok (.agg cs)=true:=rfl
theorem Qen (cs:List AV):AV.one (.agg cs)=false:=rfl
theorem Qef (cs:List AV):AV.gpfree (.agg cs)=gpfreeL cs:=rfl
theorem QaW (o:Bool) (z:Nat) (xs:List (List AV)):AV.strip (.sl o z xs)= .sl false z xs:=rfl
theorem Qkp (o:Bool) (z:Nat) (xs:List (List AV)):AV.ok (.sl o z xs)=true:=rfl
theorem Qgs (o:Bool) (z:Nat) (xs:List (List AV)):AV.one (.sl o z xs)=true:=rfl
theorem Qgi (o:Bool) (z:Nat) (xs:List (List AV)):AV.gpfree (.sl o z xs)=gpfreeE xs:=rfl
theorem QaS (cs:List AV):AV.strip (.bx cs)= .bx cs:=rfl
theorem Qkl (cs:List AV):AV.ok (.bx cs)=false:=rfl
theorem Qgo (cs:List AV):AV.one (.bx cs)=false:=rfl
theorem Qgf (cs:List AV):AV.gpfree (.bx cs)=gpfreeL cs:=rfl
theorem QaU (i o:Nat):AV.strip (.gp i o)= .gp i o:=rfl
theorem Qkn (i o:Nat):AV.ok (.gp i o)=true:=rfl
theorem Qgq (i o:Nat):AV.one (.gp i o)=true:=rfl
theorem Qgh (i o:Nat):AV.gpfree (.gp i o)=false:=rfl
theorem QaV (i o z n:Nat):AV.strip (.gs i o z n)= .gs i o z n:=rfl
theorem Qko (i o z n:Nat):AV.ok (.gs i o z n)=true:=rfl
theorem Qgr (i o z n:Nat):AV.one (.gs i o z n)=true:=rfl
theorem Dp (cs:List AV):AV.strip (.rptr cs)= .rptr cs:=rfl
theorem Qem (cs:List AV):AV.ok (.rptr cs)=true:=rfl
theorem QaR (cs:List AV):AV.one (.rptr cs)=true:=rfl
theorem QaN (cs:List AV):AV.gpfree (.rptr cs)=gpfreeL cs:=rfl
theorem QaT (f:Nat) (cs:List AV):AV.strip (.fn f cs)= .fn f cs:=rfl
theorem Qkm (f:Nat) (cs:List AV):AV.ok (.fn f cs)=true:=rfl
theorem Qgp (f:Nat) (cs:List AV):AV.one (.fn f cs)=true:=rfl
theorem Qgg (f:Nat) (cs:List AV):AV.gpfree (.fn f cs)=gpfreeL cs:=rfl
theorem Ci (vs:List AV):AV.strip (.tup vs)= .tup vs:=rfl
theorem Qgn (vs:List AV):AV.ok (.tup vs)=true:=rfl
theorem Qer (vs:List AV):AV.one (.tup vs)=false:=rfl
theorem Qej (vs:List AV):AV.gpfree (.tup vs)=gpfreeL vs:=rfl
theorem Cf (b:Bool):AV.strip (.err b)= .err b:=rfl
theorem Qgk (b:Bool):AV.ok (.err b)=true:=rfl
theorem Qeo (b:Bool):AV.one (.err b)=true:=rfl
theorem Qeg (b:Bool):AV.gpfree (.err b)=true:=rfl
theorem Km {α:Type} (p:Prop) [Decidable p] (a b c:α): (if p then(if p then a else b)else c)=if p then a else c:=by split <;> simp_all
theorem Kl {α:Type} (p:Prop) [Decidable p] (a b c:α): (if p then a else(if p then b else c))=if p then a else c:=by split <;> simp_all
attribute [simp] H2 QaO Cd Cc Cg Qgl Qep Qeh Do Qel QaQ QaM Dn Qek QaP QaL Ch Qgm Qeq Qei Ce Qgj Qen Qef QaW Qkp Qgs Qgi QaS Qkl Qgo Qgf QaU Qkn Qgq Qgh QaV Qko Qgr Dp Qem QaR QaN QaT Qkm Qgp Qgg Ci Qgn Qer Qej Cf Qgk Qeo Qeg Km Kl
attribute [simp] eqVE_refl QkT QnM QkR QgS Ts Cr QkQ QnL QkO Qhm QkJ Qhi QkI QeA Qez Qaa Cj Qgy Qey HN AP DL D0 QfM MF Ho Hn ME Qam D5 Qh Qom Qol Qe8 DJ L4 aun YK XT Vr gpfreeL gpfreeE Xr Yo cellsOf put QkD QkN Qhk QeY Qhl Qhh Qj6 Pa QgR D9 Qar Qev Qes Qnj Qnk Qkt Qku Qkq Qkr Qex Qgw Qeu Qet Qgv QaX Qks Qgx Qew QaE
attribute [simp ↓] Qmu
attribute [simp 2000] QkM Qhj Qov Qou
theorem D6 (c:Bool) (x y:Out):YS c false x y=YS c true y x:=by cases c <;> rfl
theorem D4 (c x y:Bool) (s:List (List AV)):YS c true (some (.bool x,s)) (some (.bool y,s))=some (.bool (bif c then x else y),s):=by cases c <;> rfl
theorem EJ (c:Bool) (k:IntKind) (x y:Int) (s:List (List AV)):YS c true (some (.int k x,s)) (some (.int k y,s))=some (.int k (bif c then x else y),s):=by cases c <;> rfl
theorem Qc {T:Nat→Option AFn} {c c':AC} (h:c=c') (ρ:Nat→AV) (bs:List (List AV)) (k:Kn):R T (.loop c) ρ bs k=R T c' ρ bs (Qr T (.loop c) k):=by
 subst h;exact QkS c ρ bs k
attribute [simp] toI
theorem Ya {α:Type} (x:α) (xs:List α): (x:: xs)[0]? =some x:=rfl
attribute [simp] D6 D4 EJ Rc Ws Zt Bool.cond_decide
theorem ZG {n:Int} (h1: -9223372036854775808≤n) (h2:n < 9223372036854775808):IntKind.i64.wrap n=n:=by
 simp only[IntKind.wrap_i64];omega
theorem wr1 (n:Nat) (h:n+1 < 9223372036854775808):IntKind.i64.wrap ((n:Int)+1)=(n:Int)+1:=ZG (by omega) (by omega)
theorem Qx {α:Type} {l pre post:List α} {x:α} (h:l=pre ++ x:: post):l.length=pre.length+ (post.length+1):=by rw[h];simp
theorem Qy {α:Type} {l pre post:List α} {x:α} (h:l=pre ++ x:: post): (pre.length:Int) < (l.length:Int):=by have:=Qx h;omega
@[simp] theorem Qo9 (n:Nat) (vs:List AV):stV (.t n) vs=vs.map AV.strip:=rfl
@[simp] theorem Qo6 (z:Nat) (vs:List AV):stV (.c (.sl true z [])) vs=vs.map fun _=> .sl true z []:=rfl
@[simp] theorem Qo5 (k:IntKind) (n:Int) (vs:List AV):stV (.c (.int k n)) vs=vs.map AV.strip:=rfl
@[simp] theorem Qo7 (s:List UInt8) (vs:List AV):stV (.c (.str s)) vs=vs.map AV.strip:=rfl
@[simp] theorem QoV (b:Bool) (vs:List AV):stV (.c (.bool b)) vs=vs.map AV.strip:=rfl
@[simp] theorem Qo3 (cs:List AV) (vs:List AV):stV (.c (.agg cs)) vs=vs.map AV.strip:=rfl
@[simp] theorem Qo4 (b:Bool) (vs:List AV):stV (.c (.err b)) vs=vs.map AV.strip:=rfl
@[simp] theorem Qo0 (i o k:Nat):R6 (.gs i o 0 0) (.sl true k [])= .sl true k []:=rfl
@[simp] theorem QoR (k:IntKind) (n:Int) (z:AV):R6 (.int k n) z= .int k n:=rfl
@[simp] theorem QoS (s:List UInt8) (z:AV):R6 (.str s) z= .str s:=rfl
@[simp] theorem Qor (b:Bool) (z:AV):R6 (.bool b) z= .bool b:=rfl
@[simp] theorem Qo1 (o:Bool) (k:Nat) (xs:List (List AV)) (z:AV):R6 (.sl o k xs) z= .sl false k xs:=rfl
attribute [simp] WF
@[simp] theorem Qoj (i:Nat):AV.strip (.mp i)= .mp i:=rfl
@[simp] theorem Qo2 (i:Nat):AV.ok (.mp i)=true:=rfl
@[simp] theorem QoU (i:Nat):AV.one (.mp i)=true:=rfl
@[simp] theorem QoT (i:Nat):AV.gpfree (.mp i)=false:=rfl
@[simp] theorem RA: ∀bs:List (List AV),Xk bs bs=true
 | []=>rfl
 | x:: xs=>by simp only[Xk,eqVL_refl,RA xs,Bool.true_or,Bool.true_and]
@[simp] theorem Qoz (ys:List (List AV)):Xk [] ys=true:=rfl
@[simp] theorem DV (a b c:List (List AV)):Xk (a ++ b) (a ++ c)=Xk b c:=by
 induction a with
 | nil=>rfl
 | cons x xs ih=>simp only[List.cons_append,Xk,eqVL_refl,ih,Bool.true_or,Bool.true_and]
@[simp] theorem Qoy (a c:List (List AV)):Xk a (a ++ c)=true:=by
 have:=DV a [] c;simpa using this
@[simp] theorem Qon (x:List AV) (xs ys:List (List AV)):Xk (x:: xs) (x:: ys)=Xk xs ys:=by simp only[Xk,eqVL_refl,Bool.true_or,Bool.true_and]
@[simp] theorem Ek {cs:List AV} (h:gpfreeL cs=true): ∀(bs:List (List AV)) (i:Nat),Xk bs (bs.set i cs)=true
 | [],_=>rfl
 | x:: xs,0=>by simp only[List.set_cons_zero,Xk,h,RA,Bool.or_true,Bool.and_true]
 | x:: xs,i+1=>by simp only[List.set_cons_succ,Xk,eqVL_refl,Ek h xs i,Bool.true_or,Bool.and_true]
theorem Bz: ∀{xs ys:List (List AV)},xs.length≤ys.length→(∀(i:Nat) (x y:List AV),xs[i]? =some x→ys[i]? =some y→x=y∨gpfreeL y=true)→Xk xs ys=true
 | [],_,_,_=>rfl
 | _:: _,[],h,_=>by simp at h
 | x:: xs,y:: ys,h,hh=>by
  simp only[Xk,Bool.and_eq_true,Bool.or_eq_true];refine⟨?_,Bz (by simpa using h) fun i a b ha hb=>hh (i+1) a b (by simpa using ha) (by simpa using hb)⟩;rcases hh 0 x y rfl rfl with h1 | h1
  ·subst h1;exact .inl (eqVL_refl x)
  ·exact .inr h1
@[simp] theorem QoY {x y:List AV} (h:gpfreeL y=true) (xs ys:List (List AV)):Xk (x:: xs) (y:: ys)=Xk xs ys:=by simp only[Xk,h,Bool.or_true,Bool.true_and]
@[simp] theorem QnK:gpfreeL []=true:=rfl
@[simp] theorem EI (x:AV) (xs:List AV):gpfreeL (x:: xs)=(x.gpfree && gpfreeL xs):=rfl
@[simp] theorem D2: ∀n:Nat,gpfreeL (List.replicate n .undef)=true
 | 0=>rfl
 | n+1=>by rw[List.replicate_succ,EI,D2 n];rfl
@[simp] theorem Em (bs:List (List AV)) (i:Nat):Xk bs (bs.set i [])=true:=Ek rfl bs i
end Go.Am
namespace Go.Am
set_option maxRecDepth 8000
theorem Mj (a b:Int) (bs:List (List AV)):call F.tb 32 [.int .i64 a,.int .i64 b] bs=some (.int .i64 (if a < b then -1 else if a > b then 1 else 0),bs):=by
 rw[Qb F.tb_32 _ _ rfl];simp[F.f32,F.f32C]
def Vh (c:UInt8):Bool:=(97≤c.toNat && c.toNat≤122) || (65≤c.toNat && c.toNat≤90) || (48≤c.toNat && c.toNat≤57) || c.toNat == 95 || c.toNat == 35
theorem Eh (n m:Nat): ((n:Int) == (m:Int))=(n == m):=by rw[Bool.eq_iff_iff,beq_iff_eq,beq_iff_eq];omega
theorem K1 (n:Nat): ((n:Int) == 95)=(n == 95):=Eh n 95
theorem K0 (n:Nat): ((n:Int) == 35)=(n == 35):=Eh n 35
theorem Mh (c:UInt8) (bs:List (List AV)):call F.tb 9 [.int .u8 c.toNat] bs=some (.bool (Vh c),bs):=by
 rw[Qb F.tb_9 _ _ rfl];simp (config:={maxSteps:=1000000}) [F.f9,F.f9C,Vh,K1,K0];have e1: ∀m:Nat,((m:Int)≤(c.toNat:Int))=(m≤c.toNat):=fun m=>by simp
 have e2: ∀m:Nat,((c.toNat:Int)≤(m:Int))=(c.toNat≤m):=fun m=>by simp
 simp only[show(97:Int)=((97:Nat):Int)from rfl,show(122:Int)=((122:Nat):Int)from rfl,show(65:Int)=((65:Nat):Int)from rfl,show(90:Int)=((90:Nat):Int)from rfl,show(48:Int)=((48:Nat):Int)from rfl,show(57:Int)=((57:Nat):Int)from rfl,e1,e2];by_cases h1:97≤c.toNat <;> by_cases h2:c.toNat≤122 <;> by_cases h3:65≤c.toNat <;> by_cases h4:c.toNat≤90 <;> by_cases h5:48≤c.toNat <;> by_cases h6:c.toNat≤57 <;> simp[h1,h2,h3,h4,h5,h6]
theorem D8 (s:List UInt8) (bs:List (List AV)) (hs:s.length < 4611686018427387904): ∀(k i:Nat) (ρ:Nat→AV),s.length - i=k→i≤s.length→ρ 0= .str s→ρ 38= .int .i64 s.length→ρ 39= .int .i64 i→
  R F.tb (.loop F.f8l0) ρ bs (Ql 0 (Qr F.tb F.f8r0 (Qt F.f8 bs)))=some (.bool ((s.drop i).all Vh),bs):=by
 intro k
 induction k with
 | zero=>
  intro i ρ hk hi h0 h38 h39;have:i=s.length:=by omega
  subst this;rw[Qc F.f8l0.eq_1];simp[h0,h38,h39,F.f8r0]
 | succ k ih=>
  intro i ρ hk hi h0 h38 h39;have hlt:i < s.length:=by omega
  have hw:IntKind.i64.wrap ((i:Int)+1)=((i+1:Nat):Int):=ZG (by omega) (by omega);rw[Qc F.f8l0.eq_1,List.drop_eq_getElem_cons hlt,List.all_cons];cases hb:Vh s[i]
  ·simp[h0,h38,h39,hlt,Mh,hb]
  ·simp[h0,h38,h39,hlt,Mh,hb,hw];rw[ih (i+1)] <;> first | rfl | omega | simp[h0,h38]
def Y6:List UInt8→Bool
 | []=>false
 | c:: r=>decide (r.length < 24) && Vh c && !(decide (48≤c.toNat) && decide (c.toNat≤57)) && c.toNat != 95 && c.toNat != 35 && r.all Vh
theorem DS (s:List UInt8) (bs:List (List AV)) (hs:s.length < 4611686018427387904):call F.tb 8 [.str s] bs=some (.bool (Y6 s),bs):=by
 rw[Qb F.tb_8 _ _ rfl];cases s with
 | nil=>simp[F.f8C,Y6]
 | cons c r=>
  have hl:=D8 (c:: r) bs hs ((c:: r).length - 0) 0;simp (config:={maxSteps:=1000000}) [F.f8C,Mh,hl,K1,K0];have e1: (24 < (r.length:Int)+1)=(¬r.length < 24):=by rw[eq_iff_iff];omega
  have e2: ((48:Int)≤(c.toNat:Int))=(48≤c.toNat):=by rw[eq_iff_iff];omega
  have e3: ((c.toNat:Int)≤57)=(c.toNat≤57):=by rw[eq_iff_iff];omega
  simp only[Y6,e1,e2,e3,bne];by_cases h1:r.length < 24 <;> by_cases h2:48≤c.toNat <;> by_cases h3:c.toNat≤57 <;> cases Vh c <;> simp[h1,h2,h3]
end Go.Am
namespace Go.Am
set_option maxRecDepth 8000
attribute [simp] II IJ
attribute [simp] YJ Q5 Wu QN
attribute [simp] XM Mt YR Zu QO Hf Qdi Qdj Qdk Qdl BF BG BH BI IA encTs_gp
attribute [simp] Int.toNat_natCast
attribute [simp] II IJ
theorem Mc (t:Tm) (bs:List (List AV)) (hm:t.mass < big) (ih: ∀x∈t.kids,∀bs,call F.tb 31 [.agg (Qa x)] bs=some (.int .i64 x.nodes,bs)):
  ∀(post pre:List Tm) (ρ:Nat→AV),t.kids=pre ++ post→ρ 7= .sl false 4 (encTs t.kids)→ρ 8= .int .i64 t.kids.length→ρ 9= .int .i64 pre.length→ρ 3= .int .i64 (1+nodesL pre:Nat)→
  R F.tb (.loop F.f31l0) ρ bs (Ql 0 (Qr F.tb F.f31r0 (Qt F.f31 bs)))=some (.int .i64 t.nodes,bs):=by
 have hm2:=Qo t;have hn:=nodesL_le_mass t.kids;unfold big at hm;intro post
 induction post with
 | nil=>
  intro pre ρ hk h7 h8 h9 h3;rw[Qc F.f31l0.eq_1];simp at hk;simp[h3,h8,h9,← hk,F.f31r0,Z0]
 | cons x post IH=>
  intro pre ρ hk h7 h8 h9 h3;have hg:=Qp hk;have hl:=Qx hk;have hnn:nodesL t.kids=nodesL pre+ (x.nodes+nodesL post):=by rw[hk,Yr];simp[nodesL]
  have hw1:=wr1 pre.length (by omega);have hw2:IntKind.i64.wrap (1+ (nodesL pre:Int)+ (x.nodes:Int))=1+ (nodesL pre:Int)+ (x.nodes:Int):=ZG (by omega) (by omega);have hlt:=Qy hk;rw[Qc F.f31l0.eq_1];simp[h3,h7,h8,h9,hg,hw1,hw2,hlt,ih x (by rw[hk];simp)];rw[IH (pre ++ [x])] <;> simp[h3,h7,h8,h9,hk,Yr,nodesL];omega
theorem TO: ∀(t:Tm) (bs:List (List AV)),t.mass < big→call F.tb 31 [.agg (Qa t)] bs=some (.int .i64 t.nodes,bs):=by
 refine Zp ?_;intro k n s ks ih bs hm;rw[Qb F.tb_31 _ _ rfl];simp[F.f31C];refine Mc (.mk k n s ks) bs hm (fun x hx bs=>ih x hx bs ?_) ks [] _ ?_ ?_ ?_ ?_ ?_ <;> (try simp[nodesL]);have:=QD hx;have:=Qo (.mk k n s ks);simp at *;omega
end Go.Am
namespace Go.Am
set_option maxRecDepth 8000
def two (bs:List (List AV)) (i j:Nat) (n d:Int):List (List AV):=(bs.set i [.int .i64 n]).set j [.int .i64 d]
section
variable {bs:List (List AV)} {i j:Nat} {n d m:Int}
theorem S3: (two bs i j n d).length=bs.length:=by simp[two]
theorem Qhb (hi:i < bs.length) (hij:i≠j): (two bs i j n d)[i]? =some [.int .i64 n]:=by
 rw[two,List.getElem?_set_ne (Ne.symm hij),List.getElem?_set_self hi]
theorem Qhc (hj:j < bs.length): (two bs i j n d)[j]? =some [.int .i64 d]:=by simp[two,hj]
theorem QgN (hij:i≠j): (two bs i j n d).set i [.int .i64 m]=two bs i j m d:=by
 simp only[two];rw[List.set_comm _ _ (Ne.symm hij),List.set_set]
@[simp] theorem Eo {n' d':Int}:Xk (two bs i j n d) (two bs i j n' d')=true:=Bz (by simp[S3]) fun k x y hx hy=>by
 unfold two at hx hy;rw[List.getElem?_set]at hx hy;split at hy
 ·split at hy
  ·injection hy with hy;subst hy;exact .inr rfl
  ·cases hy
 ·rename_i hjk;rw[if_neg hjk]at hx;rw[List.getElem?_set]at hx hy;split at hy
  ·split at hy
   ·injection hy with hy;subst hy;exact .inr rfl
   ·cases hy
  ·rename_i hik;rw[if_neg hik,hy]at hx;injection hx with hx
   exact .inl hx.symm
theorem QgO: (two bs i j n d).set j [.int .i64 m]=two bs i j n m:=by simp[two]
end
def Xd (t:Tm):Int:=
 if t.kind=1∨t.kind=2 then
  if(t.sort < 0∨5 < t.sort)∨0 < t.kids.length then 1 else if Y6 t.name=false then 2 else if 8 < t.kids.length then 3 else 0
 else if t.kind=3 then
  if t.sort≠0 then 1 else if Y6 t.name=false then 2 else if 8 < t.kids.length then 3 else 0
 else 1
mutual
def ZI:Tm→Int
 | .mk k n s ks=>if Xd (.mk k n s ks)≠0 then Xd (.mk k n s ks)else errL ks
def errL:List Tm→Int
 | []=>0
 | t:: ts=>if ZI t≠0 then ZI t else errL ts
end
mutual
def Va:Tm→Int→Int×Int→Int×Int
 | .mk k n s ks,l,p=>if Xd (.mk k n s ks)≠0 then(p.1+1,if l > p.2 then l else p.2)else cntL ks l (p.1+1,if l > p.2 then l else p.2)
def cntL:List Tm→Int→Int×Int→Int×Int
 | [],_,p=>p
 | t:: ts,l,p=>if ZI t≠0 then Va t (l+1) p else cntL ts l (Va t (l+1) p)
end
mutual
theorem BB: ∀(t:Tm) (l:Int) (p:Int×Int),p.1≤(Va t l p).1∧(Va t l p).1≤p.1+t.nodes
 | .mk k n s ks,l,p=>by
  simp only[Va,Tm.nodes];have:=cntL_le ks l (p.1+1,if l > p.2 then l else p.2);split <;> simp at * <;> omega
theorem cntL_le: ∀(ts:List Tm) (l:Int) (p:Int×Int),p.1≤(cntL ts l p).1∧(cntL ts l p).1≤p.1+nodesL ts
 | [],l,p=>by simp[cntL,nodesL]
 | t:: ts,l,p=>by
  simp only[cntL,nodesL];have:=BB t (l+1) p;have:=cntL_le ts l (Va t (l+1) p);split <;> omega
end
theorem A5 (t:Tm) (l:Int) (bs:List (List AV)) (i j:Nat) (hi:i < bs.length) (hj:j < bs.length) (hij:i≠j) (hm:t.mass < big) (hl:0≤l∧l+t.depth≤big) (n0 d0:Int)
  (ih: ∀x∈t.kids,∀n d:Int,0≤n→n+x.nodes < 2*big→call F.tb 7 [.agg (Qa x),.int .i64 (l+1),.gp i 0,.gp j 0] (two bs i j n d)=some (.int .i64 (ZI x),two bs i j (Va x (l+1) (n,d)).1 (Va x (l+1) (n,d)).2)):
  ∀(post pre:List Tm) (n d:Int) (ρ:Nat→AV),0≤n→n+nodesL post < 2*big→t.kids=pre ++ post→ρ 57= .sl false 4 (encTs t.kids)→ρ 58= .int .i64 t.kids.length→ρ 59= .int .i64 pre.length→
   ρ 1= .int .i64 l→ρ 2= .gp i 0→ρ 3= .gp j 0→
  R F.tb (.loop F.f7l0) ρ (two bs i j n d) (Ql 1 (Qr F.tb F.f7r0 (Qt F.f7 (two bs i j n0 d0))))=
   some (.int .i64 (errL post),two bs i j (cntL post l (n,d)).1 (cntL post l (n,d)).2):=by
 have hm2:=Qo t;have hdp:=S9 t;unfold big at *;have hji:=Ne.symm hij;intro post
 induction post with
 | nil=>
  intro pre n d ρ hn hnb hk h57 h58 h59 h1 h2 h3;rw[Qc F.f7l0.eq_1];simp at hk;simp[h1,h2,h3,h57,h58,h59,← hk,F.f7r0,errL,cntL,S3];rw[List.take_of_length_le (by simp[S3])];exact⟨Eo,rfl⟩
 | cons x post IH=>
  intro pre n d ρ hn hnb hk h57 h58 h59 h1 h2 h3;have hg:=Qp hk;have hlen:t.kids.length=pre.length+ (post.length+1):=by rw[hk];simp
  simp only[nodesL]at hnb;have hw1:=wr1 pre.length (by omega);have hw2:IntKind.i64.wrap (l+1)=l+1:=ZG (by omega) (by omega);have hlt: (pre.length:Int) < (t.kids.length:Int):=by omega
  have hx:=ih x (by rw[hk];simp) n d hn (by omega);have hc:=BB x (l+1) (n,d);rw[Qc F.f7l0.eq_1];by_cases he:ZI x=0
  ·simp[h1,h2,h3,h57,h58,h59,hg,hw1,hw2,hlt,hx,he];simp only[errL,cntL,he,ne_eq,not_true,if_false];rw[IH (pre ++ [x])] <;> (first | (simp at hc;omega) | simp[h1,h2,h3,h57,h58,h59,hk])
  ·simp[h1,h2,h3,h57,h58,h59,hg,hw1,hw2,hlt,hx,he,errL,cntL];rw[List.take_of_length_le (by simp[S3])];exact⟨Eo,rfl⟩
theorem A1: ∀(t:Tm) (l:Int) (bs:List (List AV)) (i j:Nat) (n d:Int),i < bs.length→j < bs.length→i≠j→t.mass < big→0≤l→l+t.depth≤big→0≤n→n+t.nodes < 2*big→
  call F.tb 7 [.agg (Qa t),.int .i64 l,.gp i 0,.gp j 0] (two bs i j n d)=some (.int .i64 (ZI t),two bs i j (Va t l (n,d)).1 (Va t l (n,d)).2):=by
 refine Zp ?_;intro k nm s ks ih l bs i j n d hi hj hij hm hl hld hn hnb;have hm2:=Qo (.mk k nm s ks);have hnn:=Z0 (.mk k nm s ks);have hdp:=S9 (.mk k nm s ks);simp only[QN,Q5]at hm2 hnn hdp;have hdl:=depthL_le_nodes ks;have hnm:=nodesL_le_mass ks;have hloop: ∀ρ:Nat→AV,ρ 57= .sl false 4 (encTs ks)→ρ 58= .int .i64 ks.length→ρ 59= .int .i64 0→
   ρ 1= .int .i64 l→ρ 2= .gp i 0→ρ 3= .gp j 0→
  R F.tb (.loop F.f7l0) ρ (two bs i j (n+1) (if l > d then l else d)) (Ql 1 (Qr F.tb F.f7r0 (Qt F.f7 (two bs i j n d))))=
   some (.int .i64 (errL ks),two bs i j (cntL ks l (n+1,if l > d then l else d)).1 (cntL ks l (n+1,if l > d then l else d)).2):=by
  intro ρ h57 h58 h59 h1 h2 h3;refine A5 (.mk k nm s ks) l bs i j hi hj hij hm ⟨hl,hld⟩ n d ?_ ks [] (n+1) (if l > d then l else d) ρ (by omega) (by omega) rfl h57 h58 h59 h1 h2 h3;intro x hx n d hn hnb;have h1:=QD hx;have h2:=Nt hx;simp only[QN]at h1 h2;exact ih x hx (l+1) bs i j n d hi hj hij (by omega) (by omega) (by omega) hn hnb
 unfold big at hm hnb;have hw:IntKind.i64.wrap (n+1)=n+1:=ZG (by omega) (by omega);have hji:=Ne.symm hij;have htk: ∀(a b:Int),List.take bs.length (two bs i j a b)=two bs i j a b:=fun a b=>List.take_of_length_le (by simp[S3]);have hnl:nm.length < 4611686018427387904:=by omega
 have hks: ((8:Int) < ks.length)=(8 < ks.length):=by rw[eq_iff_iff];omega
 rw[Qb F.tb_7 _ _ rfl];simp (config:={maxSteps:=1000000}) [F.f7C,hw,Qhb hi hij,Qhc hj,QgN hij,QgO,S3,DS,hnl,htk,hks];simp only[gt_iff_lt]at hloop;clear ih hm hl hld hn hnb hm2 hnn hdp hdl hnm hw htk hnl hks hi hj hij hji;generalize hdd: (if d < l then l else d)=d' at *;simp only[XF,decide_eq_true_eq,Bool.or_eq_true]
 repeat' split
 all_goals simp only[ZI,Va,Xd,YJ,Wu,Q5,QN,gt_iff_lt,hdd]
 all_goals first
  | (rw[hloop] <;> simp[*];done)
  | (simp[*];done)
  | skip
def QF (t:Tm):Int:=if ZI t≠0 then ZI t else if 400 < t.nodes∨40 < t.depth then 3 else 0
mutual
theorem BC: ∀(t:Tm) (l:Int) (p:Int×Int),ZI t=0→Va t l p=(p.1+t.nodes,max p.2 (l+t.depth - 1))
 | .mk k n s ks,l,p,h=>by
  simp only[ZI]at h;split at h
  ·rename_i hne;exact absurd h hne
  ·rename_i hne;simp only[Va,hne,if_false,Tm.nodes,Tm.depth];rw[cntL_ok ks l _ h];refine Prod.ext ?_ ?_
   ·simp;omega
   ·cases ks with
    | nil=>simp[depthL,nodesL];split <;> omega
    | cons t ts=>simp[depthL];split <;> omega
theorem cntL_ok: ∀(ts:List Tm) (l:Int) (p:Int×Int),errL ts=0→cntL ts l p=(p.1+nodesL ts,if ts=[]then p.2 else max p.2 (l+depthL ts))
 | [],l,p,_=>by simp[cntL,nodesL]
 | t:: ts,l,p,h=>by
  simp only[errL]at h;split at h
  ·rename_i hne;exact absurd h hne
  ·rename_i hne;have he:ZI t=0:=by simpa using hne
   simp only[cntL,hne,if_false,nodesL,depthL];rw[cntL_ok ts l _ h,BC t (l+1) p he];refine Prod.ext ?_ ?_
   ·simp;omega
   ·cases ts with
    | nil=>simp[depthL];omega
    | cons u us=>simp[depthL];omega
end
theorem XW (t:Tm) (bs:List (List AV)) (hm:t.mass < big):call F.tb 6 [.agg (Qa t)] bs=some (.int .i64 (QF t),bs):=by
 have h2:bs ++ [[AV.int .i64 0],[AV.int .i64 0]]=two (bs ++ [[AV.int .i64 0],[AV.int .i64 0]]) bs.length (bs.length+1) 0 0:=by
  simp[two]
 have hn:=Zm t;have hd:=OY t;have hb:big=1099511627776:=rfl;have hc:=A1 t 1 (bs ++ [[AV.int .i64 0],[AV.int .i64 0]]) bs.length (bs.length+1) 0 0 (by simp) (by simp) (by omega) hm (by omega) (by omega) (by omega) (by omega);rw[← h2]at hc;have hi:=Qhb (bs:=bs ++ [[AV.int .i64 0],[AV.int .i64 0]]) (i:=bs.length) (j:=bs.length+1) (n:=(Va t 1 (0,0)).1) (d:=(Va t 1 (0,0)).2) (by simp) (by omega);have hj:=Qhc (bs:=bs ++ [[AV.int .i64 0],[AV.int .i64 0]]) (i:=bs.length) (j:=bs.length+1) (n:=(Va t 1 (0,0)).1) (d:=(Va t 1 (0,0)).2) (by simp);have htk:List.take bs.length (two (bs ++ [[AV.int .i64 0],[AV.int .i64 0]]) bs.length (bs.length+1) (Va t 1 (0,0)).1 (Va t 1 (0,0)).2)=bs:=by
  simp[two]
 have hcnt:=BC t 1 (0,0);rw[Qb F.tb_6 _ _ rfl];simp[F.f6C,hc,hi,hj,htk,QF];by_cases he:ZI t=0
 ·have:=S9 t;have e1: (400 < (t.nodes:Int))=(400 < t.nodes):=by rw[eq_iff_iff];omega
  have e2: (40 < (max 0 (1+ (t.depth:Int) - 1)))=(40 < t.depth):=by rw[eq_iff_iff];omega
  simp[he,hcnt he,e1,e2,XF]
 ·simp[he]
end Go.Am
namespace Go.Am
set_option maxRecDepth 8000
theorem Nk (a b:Int) (bs:List (List AV)):call F.tb 32 [.int .i64 a,.int .i64 b] bs=some (.int .i64 (sgn a b),bs):=Mj a b bs
theorem L8 (a b:List UInt8) (bs:List (List AV)):call F.tb 33 [.str a,.str b] bs=some (.int .i64 (Xw a b),bs):=by
 rw[Xv F.tb_33];rfl
theorem S4 (t u:Tm) (bs:List (List AV)) (hm:t.mass < big) (hu:u.mass < big)
  (ih: ∀x∈t.kids,∀y bs,y.mass < big→call F.tb 30 [.agg (Qa x),.agg (Qa y)] bs=some (.int .i64 (Qm x y),bs)):
  ∀(xs ys pre pre':List Tm) (c:Int) (ρ:Nat→AV),t.kids=pre ++ xs→u.kids=pre' ++ ys→pre.length=pre'.length→(c=0→xs.length=ys.length)→
   ρ 2= .bx (Qa t)→ρ 3= .bx (Qa u)→ρ 5= .int .i64 c→ρ 6= .int .i64 pre.length→
  R F.tb (.loop F.f30l0) ρ bs (Ql 0 (Qr F.tb F.f30r0 (Qt F.f30 bs)))=some (.int .i64 (or0 c (cmpL xs ys)),bs):=by
 have hm2:=Qo t;have hu2:=Qo u;intro xs
 induction xs with
 | nil=>
  intro ys pre pre' c ρ hk hk' hp hc h2 h3 h5 h6;rw[Qc F.f30l0.eq_1];simp at hk;by_cases h0:c=0
  ·simp[h2,h3,h5,h6,h0,F.f30r0,hk,cmpL,H9]
  ·simp[h2,h3,h5,h6,h0,F.f30r0,cmpL,H9]
 | cons x xs IH=>
  intro ys pre pre' c ρ hk hk' hp hc h2 h3 h5 h6;rw[Qc F.f30l0.eq_1];by_cases h0:c=0
  ·obtain⟨y,ys',rfl⟩: ∃y ys',ys=y:: ys':=by
    have:=hc h0;cases ys with
    | nil=>simp at this
    | cons y ys'=>exact⟨y,ys',rfl⟩
   have hg:=Qp hk;have hg':=Qp hk';rw[← hp]at hg';have hl:t.kids.length=pre.length+ (xs.length+1):=by rw[hk];simp
   have hlt: (pre.length:Int) < (t.kids.length:Int):=by omega
   have hym:y.mass < big:=by have:=QD (x:=y) (ks:=u.kids) (by rw[hk'];simp);omega
   unfold big at hm hu;have hw1:=wr1 pre.length (by omega);simp[h2,h3,h5,h6,h0,hlt,hg,hg',hw1,ih x (by rw[hk];simp) y bs hym];rw[IH ys' (pre ++ [x]) (pre' ++ [y]) (Qm x y)] <;> first | omega | (simp[hk,hk',hp,h2,h3,cmpL,VX];done) | (intro _;have:=hc h0;simp at this;omega)
  ·simp[h2,h3,h5,h6,h0,F.f30r0,cmpL,UX]
theorem call_Compare: ∀(t u:Tm) (bs:List (List AV)),t.mass < big→u.mass < big→call F.tb 30 [.agg (Qa t),.agg (Qa u)] bs=some (.int .i64 (Qm t u),bs):=by
 refine Zp ?_;intro k n s ks ih u bs hm hu;have hloop:=S4 (.mk k n s ks) u bs hm hu (fun x hx y bs hy=>ih x hx y bs (by have:=QD hx;have:=Qo (.mk k n s ks);simp at *;omega) hy) ks u.kids [] [] (hdT (.mk k n s ks) u);rw[Qb F.tb_30 _ _ rfl,Tb];have hsz:=TO (.mk k n s ks) bs hm;have hsz':=TO u bs hu;simp[F.f30C,hsz,hsz',Nk,L8];by_cases c1:sgn (Tm.mk k n s ks).nodes u.nodes=0 <;> by_cases c2:sgn k u.kind=0 <;> by_cases c3:Xw n u.name=0 <;> by_cases c4:sgn s u.sort=0 <;>
  simp[c1,c2,c3,c4,XF] <;> rw[hloop] <;> first | (simp[hdT,c1,c2,c3,c4,VX,UX];done) | (simp[hdT,c1,c2,c3,c4,Rq,VX,UX];omega) | skip
theorem As (t:Tm) (bs:List (List AV)) (hm:t.mass < big) (ih: ∀x∈t.kids,∀bs,call F.tb 60 [.agg (Qa x)] bs=some (.int .i64 x.nodes,bs)):
  ∀(post pre:List Tm) (ρ:Nat→AV),t.kids=pre ++ post→ρ 1= .bx (Qa t)→ρ 4= .int .i64 pre.length→ρ 3= .int .i64 (1+nodesL pre:Nat)→
  R F.tb (.loop F.f60l0) ρ bs (Ql 0 (Qr F.tb F.f60r0 (Qt F.f60 bs)))=some (.int .i64 t.nodes,bs):=by
 have hm2:=Qo t;have hn:=nodesL_le_mass t.kids;unfold big at hm;intro post
 induction post with
 | nil=>
  intro pre ρ hk h1 h4 h3;rw[Qc F.f60l0.eq_1];simp at hk;simp[h1,h3,h4,← hk,F.f60r0,Z0]
 | cons x post IH=>
  intro pre ρ hk h1 h4 h3;have hg:=Qp hk;have hl:=Qx hk;have hnn:nodesL t.kids=nodesL pre+ (x.nodes+nodesL post):=by rw[hk,Yr];simp[nodesL]
  have hw1:=wr1 pre.length (by omega);have hw2:IntKind.i64.wrap (1+ (nodesL pre:Int)+ (x.nodes:Int))=1+ (nodesL pre:Int)+ (x.nodes:Int):=ZG (by omega) (by omega);have hlt:=Qy hk;rw[Qc F.f60l0.eq_1];simp[h3,h1,h4,hg,hw1,hw2,hlt,ih x (by rw[hk];simp)];rw[IH (pre ++ [x])] <;> simp[h3,h1,h4,hk,Yr,nodesL];omega
theorem Ni: ∀(t:Tm) (bs:List (List AV)),t.mass < big→call F.tb 60 [.agg (Qa t)] bs=some (.int .i64 t.nodes,bs):=by
 refine Zp ?_;intro k n s ks ih bs hm;rw[Qb F.tb_60 _ _ rfl];simp[F.f60C];refine As (.mk k n s ks) bs hm (fun x hx bs=>ih x hx bs ?_) ks [] _ ?_ ?_ ?_ ?_ <;> (try simp[nodesL]);have:=QD hx;have:=Qo (.mk k n s ks);simp at *;omega
theorem HU (a b:List Tm):depthL (a ++ b)=max (depthL a) (depthL b):=by
 induction a with
 | nil=>simp[depthL]
 | cons t ts ih=>simp[depthL,ih]
theorem DD (t:Tm) (bs:List (List AV)) (hm:t.mass < big) (ih: ∀x∈t.kids,∀bs,call F.tb 61 [.agg (Qa x)] bs=some (.int .i64 x.depth,bs)):
  ∀(post pre:List Tm) (ρ:Nat→AV),t.kids=pre ++ post→ρ 1= .bx (Qa t)→ρ 4= .int .i64 pre.length→ρ 3= .int .i64 (depthL pre:Nat)→
  R F.tb (.loop F.f61l0) ρ bs (Ql 0 (Qr F.tb F.f61r0 (Qt F.f61 bs)))=some (.int .i64 t.depth,bs):=by
 have hm2:=Qo t;have hn:=depthL_le_nodes t.kids;have hn2:=nodesL_le_mass t.kids;unfold big at hm;intro post
 induction post with
 | nil=>
  intro pre ρ hk h1 h4 h3;rw[Qc F.f61l0.eq_1];simp at hk;have hw2:IntKind.i64.wrap ((depthL pre:Int)+1)=(depthL pre:Int)+1:=ZG (by omega) (by rw[← hk];omega);simp[h1,h3,h4,hk,hw2,F.f61r0,S9]
 | cons x post IH=>
  intro pre ρ hk h1 h4 h3;have hg:=Qp hk;have hl:=Qx hk;have hw1:=wr1 pre.length (by omega);have hlt:=Qy hk;rw[Qc F.f61l0.eq_1];simp[h3,h1,h4,hg,hw1,hlt,ih x (by rw[hk];simp)];rw[IH (pre ++ [x])] <;> simp[h3,h1,h4,hk,HU,depthL];split <;> omega
theorem DN: ∀(t:Tm) (bs:List (List AV)),t.mass < big→call F.tb 61 [.agg (Qa t)] bs=some (.int .i64 t.depth,bs):=by
 refine Zp ?_;intro k n s ks ih bs hm;rw[Qb F.tb_61 _ _ rfl];simp[F.f61C];refine DD (.mk k n s ks) bs hm (fun x hx bs=>ih x hx bs ?_) ks [] _ ?_ ?_ ?_ ?_ <;> (try simp[depthL]);have:=QD hx;have:=Qo (.mk k n s ks);simp at *;omega
theorem F7 (a b:Int) (bs:List (List AV)):call F.tb 91 [.int .i64 a,.int .i64 b] bs=some (.int .i64 (sgn a b),bs):=by
 rw[Qb F.tb_91 _ _ rfl];simp[F.f91,F.f91C,sgn]
theorem HK (t u:Tm) (bs:List (List AV)) (hm:t.mass < big) (hu:u.mass < big)
  (ih: ∀x∈t.kids,∀y bs,y.mass < big→call F.tb 90 [.agg (Qa x),.agg (Qa y)] bs=some (.int .i64 (Qm x y),bs)):
  ∀(xs ys pre pre':List Tm) (ρ:Nat→AV),t.kids=pre ++ xs→u.kids=pre' ++ ys→pre.length=pre'.length→xs.length=ys.length→
   ρ 2= .bx (Qa t)→ρ 3= .bx (Qa u)→ρ 9= .int .i64 pre.length→
  R F.tb (.loop F.f90l0) ρ bs (Ql 0 (Qr F.tb F.f90r0 (Qt F.f90 bs)))=some (.int .i64 (cmpL xs ys),bs):=by
 have hm2:=Qo t;have hu2:=Qo u;intro xs
 induction xs with
 | nil=>
  intro ys pre pre' ρ hk hk' hp hc h2 h3 h9;rw[Qc F.f90l0.eq_1];simp at hk;simp[h2,h3,h9,F.f90r0,hk,cmpL]
 | cons x xs IH=>
  intro ys pre pre' ρ hk hk' hp hc h2 h3 h9;rw[Qc F.f90l0.eq_1];obtain⟨y,ys',rfl⟩: ∃y ys',ys=y:: ys':=by
   cases ys with
   | nil=>simp at hc
   | cons y ys'=>exact⟨y,ys',rfl⟩
  have hg:=Qp hk;have hg':=Qp hk';rw[← hp]at hg';have hl:t.kids.length=pre.length+ (xs.length+1):=by rw[hk];simp
  have hlt: (pre.length:Int) < (t.kids.length:Int):=by omega
  have hym:y.mass < big:=by have:=QD (x:=y) (ks:=u.kids) (by rw[hk'];simp);omega
  unfold big at hm hu;have hw1:=wr1 pre.length (by omega);by_cases h0:Qm x y=0
  ·simp[h2,h3,h9,h0,hlt,hg,hg',hw1,ih x (by rw[hk];simp) y bs hym];rw[IH ys' (pre ++ [x]) (pre' ++ [y])] <;> first | omega | (simp[hk,hk',hp,h0,h2,h3,cmpL,VX];done) | (simp at hc;omega)
  ·simp[h2,h3,h9,h0,hlt,hg,hg',hw1,ih x (by rw[hk];simp) y bs hym,cmpL,UX]
theorem Wr: ∀(t u:Tm) (bs:List (List AV)),t.mass < big→u.mass < big→call F.tb 90 [.agg (Qa t),.agg (Qa u)] bs=some (.int .i64 (Qm t u),bs):=by
 refine Zp ?_;intro k n s ks ih u bs hm hu;have hloop:=HK (.mk k n s ks) u bs hm hu (fun x hx y bs hy=>ih x hx y bs (by have:=QD hx;have:=Qo (.mk k n s ks);simp at *;omega) hy) ks u.kids [] [];rw[Qb F.tb_90 _ _ rfl,Tb];have hsz:=Ni (.mk k n s ks) bs hm;have hsz':=Ni u bs hu;simp[F.f90C,hsz,hsz',F7];have b0:Xw n u.name=if Op.bytesLess n u.name then -1 else if(Op.bytesLess n u.name || n == u.name)=false then 1 else 0:=by
  unfold Xw;cases Op.bytesLess n u.name <;> cases hh: (n == u.name) <;> simp
 generalize (n == u.name)=q at *;generalize Op.bytesLess n u.name=p at *;by_cases c1:sgn (Tm.mk k n s ks).nodes u.nodes=0 <;> by_cases c2:sgn k u.kind=0 <;> cases p <;> cases q <;> by_cases c4:sgn s u.sort=0 <;>
  by_cases c6:sgn ks.length u.kids.length=0 <;> simp[c1,c2,c4,c6,XF,hdT,VX,UX,b0]
 all_goals (rw[hloop] <;> (try simp) <;> (try (have:=Rq.1 c6;omega)))
theorem Xa (t u:Tm) (bs:List (List AV)) (hm:t.mass < big) (hu:u.mass < big):call F.tb 89 [.agg (Qa t),.agg (Qa u)] bs=some (.bool (decide (Qm t u=0)),bs):=by
 rw[Qb F.tb_89 _ _ rfl];simp[F.f89,F.f89C,Wr t u bs hm hu]
end Go.Am
namespace Go.Am
set_option maxRecDepth 8000
mutual
def UM:Tm→Int→Int
 | .mk _ n _ ks,m=>if m≤0∨40 < n.length then -1 else budL ks (m - 1)
def budL:List Tm→Int→Int
 | [],m=>m
 | t:: ts,m=>if UM t m < 0 then -1 else budL ts (UM t m)
end
mutual
theorem Ie: ∀(t:Tm) (m:Int),UM t m= -1∨0≤UM t m∧UM t m+t.nodes≤m∧t.mass+1≤42*t.nodes
 | .mk k n s ks,m=>by
  simp only[UM,Tm.nodes,Tm.mass];split
  ·exact .inl rfl
  ·rename_i h;rcases budL_le ks (m - 1) (by omega)with h1 | h1
   ·exact .inl h1
   ·right;omega
theorem budL_le: ∀(ts:List Tm) (m:Int),0≤m→budL ts m= -1∨0≤budL ts m∧budL ts m+nodesL ts≤m∧massL ts+ts.length≤42*nodesL ts
 | [],m,h=>by simp[budL,nodesL,massL];omega
 | t:: ts,m,h=>by
  simp only[budL,nodesL,massL,List.length_cons];split
  ·exact .inl rfl
  ·rename_i h0;rcases Ie t m with h1 | h1
   ·omega
   ·rcases budL_le ts (UM t m) (by omega)with h2 | h2
    ·exact .inl h2
    ·right;omega
end
theorem Qfb (t:Tm) (bs:List (List AV)) (m0:Int) (hm:m0 < 1000000) (ih: ∀x∈t.kids,∀(m:Int) bs,m < 1000000→call F.tb 102 [.agg (Qa x),.int .i64 m] bs=some (.int .i64 (UM x m),bs)):
  ∀(post pre:List Tm) (m:Int) (ρ:Nat→AV),t.kids=pre ++ post→0≤m→m+pre.length≤m0→ρ 2= .bx (Qa t)→ρ 5= .int .i64 pre.length→ρ 1= .int .i64 m→
  R F.tb (.loop F.f102l0) ρ bs (Ql 0 (Qr F.tb F.f102r0 (Qt F.f102 bs)))=some (.int .i64 (budL post m),bs):=by
 intro post
 induction post with
 | nil=>
  intro pre m ρ hk h0 hp h2 h5 h1;rw[Qc F.f102l0.eq_1];simp at hk;simp[h1,h2,h5,hk,F.f102r0,budL]
 | cons x post IH=>
  intro pre m ρ hk h0 hp h2 h5 h1;have hg:=Qp hk;have hl:=Qx hk;have hw1:=wr1 pre.length (by omega);have hlt:=Qy hk;have hn:=Z0 x;rw[Qc F.f102l0.eq_1];rcases Ie x m with hb | hb
  ·simp[h1,h2,h5,hg,hw1,hlt,ih x (by rw[hk];simp) m bs (by omega),hb,budL]
  ·have hb0: ¬UM x m < 0:=by omega
   simp[h1,h2,h5,hg,hw1,hlt,ih x (by rw[hk];simp) m bs (by omega),hb0,budL];rw[IH (pre ++ [x]) (UM x m)] <;> first | omega | (simp[h1,h2,h5,hk];done) | (simp;omega)
theorem Ed: ∀(t:Tm) (m:Int) (bs:List (List AV)),m < 1000000→call F.tb 102 [.agg (Qa t),.int .i64 m] bs=some (.int .i64 (UM t m),bs):=by
 refine Zp ?_;intro k n s ks ih m bs hm;rw[Qb F.tb_102 _ _ rfl];have hn: (40 < (n.length:Int))=(40 < n.length):=by rw[eq_iff_iff];omega
 simp[F.f102C,XF,hn,UM];split
 ·rfl
 ·rename_i hc;have hw:IntKind.i64.wrap (m - 1)=m - 1:=ZG (by omega) (by omega);refine Qfb (.mk k n s ks) bs m hm (fun x hx=>ih x hx) ks [] (m - 1) _ ?_ ?_ ?_ ?_ ?_ ?_ <;> first | (simp[hw];done) | (simp;omega)
def few (l:List Tm) (n:Nat) (m:Int):Bool:=decide (l.length≤n) && decide (0≤budL l m)
theorem QfJ (l:List Tm) (o:Bool) (bs:List (List AV)) (hl:l.length < 1000000):
  ∀(post pre:List Tm) (m:Int) (ρ:Nat→AV),l=pre ++ post→0≤m→m < 1000000→ρ 0= .sl o 4 (encTs l)→ρ 7= .int .i64 pre.length→ρ 2= .int .i64 m→
  R F.tb (.loop F.f101l0) ρ bs (Ql 0 (Qr F.tb F.f101r0 (Qt F.f101 bs)))=some (.bool (decide (0≤budL post m)),bs):=by
 intro post
 induction post with
 | nil=>
  intro pre m ρ hk h0 hm hr0 h7 h2;rw[Qc F.f101l0.eq_1];simp at hk;simp[hr0,h7,h2,hk,F.f101r0,budL,h0]
 | cons x post IH=>
  intro pre m ρ hk h0 hm hr0 h7 h2;have hg:=Qp hk;have hl:=Qx hk;have hw1:=wr1 pre.length (by omega);have hlt:=Qy hk;rw[Qc F.f101l0.eq_1];rcases Ie x m with hb | hb
  ·simp[hr0,h7,h2,hg,hw1,hlt,Ed x m bs (by omega),hb,budL]
  ·have hb0: ¬UM x m < 0:=by omega
   simp[hr0,h7,h2,hg,hw1,hlt,Ed x m bs (by omega),hb0,budL];rw[IH (pre ++ [x]) (UM x m)] <;> first | omega | (simp[hr0,h7,h2,hk];done)
theorem Nj (l:List Tm) (o:Bool) (n:Nat) (m:Int) (bs:List (List AV)) (hn:n < 1000000) (h0:0≤m) (hm:m < 1000000):
  call F.tb 101 [.sl o 4 (encTs l),.int .i64 n,.int .i64 m] bs=some (.bool (few l n m),bs):=by
 rw[Qb F.tb_101 _ _ rfl];have e1: ((n:Int) < (l.length:Int))=(n < l.length):=by rw[eq_iff_iff];omega
 simp[F.f101C,XF,few];split
 ·have: ¬l.length≤n:=by omega
  simp[this]
 ·have:l.length≤n:=by omega
  rw[QfJ l false bs (by omega) l [] m] <;> simp[this,h0,hm]
end Go.Am
namespace Go.Am
set_option maxRecDepth 8000
def UB (c:UInt8):Bool:=(97≤c.toNat && c.toNat≤122) || (65≤c.toNat && c.toNat≤90)
def Ub (c:UInt8):Bool:=48≤c.toNat && c.toNat≤57
theorem Us (c:UInt8):Vh c=(UB c || Ub c || c.toNat == 95 || c.toNat == 35):=rfl
theorem VU (m n:Nat): ((m:Int)≤(n:Int))=(m≤n):=by rw[eq_iff_iff];omega
theorem R1 (c:UInt8) (bs:List (List AV)):call F.tb 58 [.int .u8 c.toNat] bs=some (.bool (UB c),bs):=by
 rw[Qb F.tb_58 _ _ rfl];have e1: ((97:Int)≤(c.toNat:Int))=(97≤c.toNat):=VU 97 _;have e2: ((c.toNat:Int)≤122)=(c.toNat≤122):=VU _ 122;have e3: ((65:Int)≤(c.toNat:Int))=(65≤c.toNat):=VU 65 _;have e4: ((c.toNat:Int)≤90)=(c.toNat≤90):=VU _ 90;simp[F.f58,F.f58C,UB,e1,e2,e3,e4]
theorem KY (c:UInt8) (bs:List (List AV)):call F.tb 59 [.int .u8 c.toNat] bs=some (.bool (Ub c),bs):=by
 rw[Qb F.tb_59 _ _ rfl];have e1: ((48:Int)≤(c.toNat:Int))=(48≤c.toNat):=VU 48 _;have e2: ((c.toNat:Int)≤57)=(c.toNat≤57):=VU _ 57;simp[F.f59,F.f59C,Ub,e1,e2]
theorem I7 (n:Nat): ((n:Int)=95)=(n=95):=by rw[eq_iff_iff];omega
theorem I6 (n:Nat): ((n:Int)=35)=(n=35):=by rw[eq_iff_iff];omega
theorem Gd (s:List UInt8) (bs:List (List AV)) (hs:s.length < 4611686018427387904): ∀(post pre:List UInt8) (ρ:Nat→AV),s=pre ++ post→ρ 0= .str s→ρ 3= .int .i64 pre.length→
  R F.tb (.loop F.f57l0) ρ bs (Ql 0 (Qr F.tb F.f57r0 (Qt F.f57 bs)))=some (.bool (post.all Vh),bs):=by
 intro post
 induction post with
 | nil=>
  intro pre ρ hk h0 h3;rw[Qc F.f57l0.eq_1];simp at hk;simp[h0,h3,hk,F.f57r0]
 | cons x post IH=>
  intro pre ρ hk h0 h3;have hg:=Qp hk;have hl:=Qx hk;have hw1:=wr1 pre.length (by omega);have hlt:=Qy hk;rw[Qc F.f57l0.eq_1];cases hp:Vh x
  ·rw[Us]at hp;simp only[Bool.or_eq_false_iff]at hp;obtain⟨⟨⟨p1,p2⟩,p3⟩,p4⟩:=hp;have p3': ¬x.toNat=95:=by simpa using p3
   have p4': ¬x.toNat=35:=by simpa using p4
   simp[h0,h3,hg,hw1,hlt,R1,KY,p1,p2,p3',p4',I7,I6,Us]
  ·simp[h0,h3,hg,hw1,hlt,R1,KY,I7,I6,Us,XF];split
   ·rename_i hc;simp[Us,hc]at hp
   ·rw[IH (pre ++ [x])]
    ·simp[Us]at hp;simp[hp]
    ·simp[hk]
    ·simp[h0]
    ·simp
theorem Qas {c:UInt8} (h:UB c=true):Ub c=false∧(c.toNat == 95)=false∧(c.toNat == 35)=false:=by
 simp only[UB,Bool.or_eq_true,Bool.and_eq_true,decide_eq_true_eq]at h;refine⟨?_,?_,?_⟩
 ·simp only[Ub,Bool.and_eq_false_iff,decide_eq_false_iff_not];omega
 ·simp;omega
 ·simp;omega
theorem D7 (c:UInt8) (r:List UInt8):Y6 (c:: r)=(decide (r.length < 24) && UB c && (c:: r).all Vh):=by
 have hd: (decide (48≤c.toNat) && decide (c.toNat≤57))=Ub c:=rfl;simp only[Y6,List.all_cons,hd,bne];cases hl:UB c
 ·rw[Us,hl];cases Ub c <;> cases (c.toNat == 95) <;> cases (c.toNat == 35) <;> simp
 ·obtain⟨h1,h2,h3⟩:=Qas hl;rw[Us,hl,h1,h2,h3];simp
theorem F6 (s:List UInt8) (bs:List (List AV)) (hs:s.length < 4611686018427387904):call F.tb 57 [.str s] bs=some (.bool (Y6 s),bs):=by
 rw[Qb F.tb_57 _ _ rfl];cases s with
 | nil=>simp[F.f57C,Y6]
 | cons c r=>
  have e1: (24 < (r.length:Int)+1)=¬(r.length < 24):=by rw[eq_iff_iff];omega
  have e2: ((r.length:Int)+1=0)=False:=eq_false (by omega);rw[D7];by_cases h1:r.length < 24 <;> cases h2:UB c <;>
  simp[F.f57C,R1,e1,e2,h1,h2,-List.all_cons];rw[Gd (c:: r) bs hs (c:: r) []] <;> (try simp)
theorem Qfx {n:Nat} (h:n < 10): (([48,49,50,51,52,53,54,55,56,57]:List UInt8).take (n+1)).drop n=[(48+n).toUInt8]:=by
 have: ∀n < 10,(([48,49,50,51,52,53,54,55,56,57]:List UInt8).take (n+1)).drop n=[(48+n).toUInt8]:=by decide
 exact this n h
theorem I1 (n:Nat) (bs:List (List AV)) (h:n < 1000000000):call F.tb 18 [.int .i64 n] bs=some (.str (YI n),bs):=by
 rw[Xv F.tb_18];have h2: -9223372036854775808≤(n:Int)∧(n:Int)≤9223372036854775807:=by omega
 show Option.map _ (LA [.int .i64 n])=_;unfold LA;simp only[if_pos h2,Qjj];rfl
theorem AR (s:List UInt8) (n:Int) (bs:List (List AV)):call F.tb 107 [.str s,.int .i64 n] bs=some (.agg (Qa (.mk 2 s n [])),bs):=by
 rw[Qb F.tb_107 _ _ rfl];simp[F.f107,F.f107C,K5]
end Go.Am
namespace Go.Am
set_option maxRecDepth 8000
theorem Xu: ∀a:List UInt8,Op.bytesLess a a=false
 | []=>rfl
 | c:: r=>by simp[Op.bytesLess,Xu r]
theorem I9 (a:List UInt8):Xw a a=0:=by simp[Xw,Xu]
theorem QgA (a:Int):sgn a a=0:=Rq.2 rfl
theorem QfR (t:Tm):hdT t t=0:=by simp[hdT,QgA,I9,or0]
mutual
theorem Yn: ∀t:Tm,Qm t t=0
 | .mk k n s ks=>by rw[Qm,QfR,VX];exact cmpL_refl ks
theorem cmpL_refl: ∀ts:List Tm,cmpL ts ts=0
 | []=>by simp[cmpL]
 | t:: ts=>by rw[cmpL,Yn t,VX];exact cmpL_refl ts
end
theorem Nv {l:List Tm} {n:Nat} {m:Int} (h0:0≤m) (h:few l n m=true):l.length≤n∧massL l+l.length≤42*m.toNat∧nodesL l≤m.toNat:=by
 simp only[few,Bool.and_eq_true,decide_eq_true_eq]at h;rcases budL_le l m h0 with h1 | h1
 ·omega
 ·omega
end Go.Am
namespace Go.Am
set_option maxRecDepth 8000
theorem A6 (t:Tm) (bs:List (List AV)) (hm:t.mass < big) (ih: ∀x∈t.kids,∀bs,call F.tb 48 [.agg (Qa x)] bs=some (.agg (Qa x),bs)):
  ∀(post pre:List Tm) (ρ:Nat→AV),t.kids=pre ++ post→ρ 1= .bx [.int .i64 t.kind,.str t.name,.int .i64 t.sort,.sl true 4 (encTs pre)]→ρ 2= .bx [.int .i64 0,.str [],.int .i64 0,.sl true 4 []]→
   ρ 9= .sl false 4 (encTs t.kids)→ρ 10= .int .i64 t.kids.length→ρ 11= .int .i64 pre.length→
  R F.tb (.loop F.f48l0) ρ bs (Ql 0 (Qr F.tb F.f48r0 (Qt F.f48 bs)))=some (.agg (Qa t),bs):=by
 have hm2:=Qo t;unfold big at hm;intro post
 induction post with
 | nil=>
  intro pre ρ hk h1 h2 h9 h10 h11;rw[Qc F.f48l0.eq_1];simp at hk;rw[← hk]at h1 h11;simp[h1,h2,h9,h10,h11,F.f48r0,WC,Tm.eta]
 | cons x post IH=>
  intro pre ρ hk h1 h2 h9 h10 h11;have hg:=Qp hk;have hl:=Qx hk;have hw1:=wr1 pre.length (by omega);have hlt:=Qy hk;have ha: (pre.length+1)*56≤140737488355328:=by omega
  rw[Qc F.f48l0.eq_1];simp[h1,h2,h9,h10,h11,hg,hw1,hlt,ha,ih x (by rw[hk];simp),Q7,QP];rw[IH (pre ++ [x])] <;> simp[h2,h9,h10,hk]
theorem TY: ∀(t:Tm) (bs:List (List AV)),t.mass < big→call F.tb 48 [.agg (Qa t)] bs=some (.agg (Qa t),bs):=by
 refine Zp ?_;intro k n s ks ih bs hm;rw[Qb F.tb_48 _ _ rfl];simp[F.f48C,Qa];refine A6 (.mk k n s ks) bs hm (fun x hx bs=>ih x hx bs ?_) ks [] _ ?_ ?_ ?_ ?_ ?_ ?_ <;> (try simp[encTs]);have:=QD hx;have:=Qo (.mk k n s ks);simp at *;omega
theorem F4 (t:Tm) (bs:List (List AV)) (hm:t.mass < big) (o:Bool):call F.tb 47 [.agg (Qa t),.sl o 1 []] bs=some (.tup [.agg (Qa t),.int .i64 0],bs):=by
 rw[Qb F.tb_47 _ _ rfl];simp[F.f47C];rw[Qc F.f47l0.eq_1];simp[F.f47r0,TY t bs hm]
theorem Ec (n:List UInt8) (ks:List Tm) (o:Bool) (bs:List (List AV)):call F.tb 49 [.str n,.sl o 4 (encTs ks)] bs=some (.agg (Qa (.mk 3 n 0 ks)),bs):=by
 rw[Qb F.tb_49 _ _ rfl];simp[F.f49,F.f49C,WC]
structure Sy where
 n:List UInt8
 l:Int
 m:Int
 k:Int
def Wf (s:Sy):List AV:=[.str s.n,.int .i64 s.l,.int .i64 s.m,.int .i64 s.k]
def YA:List Sy:=[⟨[112,97,105,114],2,2,1⟩,⟨[101,110,99],2,2,1⟩,⟨[97,101,110,99],2,2,1⟩,⟨[112,107],1,1,1⟩,⟨[115,105,103,110],2,2,1⟩,⟨[104,97,115,104],1,1,1⟩,
 ⟨[120,111,114],2,8,1⟩,⟨[122,101,114,111],0,0,1⟩,⟨[101,120,112],2,2,1⟩,⟨[109,117,108],2,8,1⟩,⟨[105,110,118],1,1,1⟩,⟨[111,110,101],0,0,1⟩,
 ⟨[115,107],1,1,2⟩,⟨[115,104,107],2,2,2⟩,⟨[110,101,119],1,8,2⟩,⟨[102,115,116],1,1,3⟩,⟨[115,110,100],1,1,3⟩,⟨[100,101,99],2,2,3⟩,⟨[97,100,101,99],2,2,3⟩,⟨[111,112,101,110],2,2,3⟩,⟨[114,101,97,100],1,1,3⟩]
def XY (ys:List Sy):List (List AV):=ys.map Wf
@[simp] theorem HW (ys:List Sy):gpfreeE (XY ys)=true:=by
 induction ys with
 | nil=>rfl
 | cons y ys ih=>simpa[XY,Wf,gpfreeE,gpfreeL,AV.gpfree]using ih
@[simp] theorem Qoq (ys:List Sy): (XY ys).length=ys.length:=by simp[XY]
theorem Eb (k l m:Int) (n:List UInt8) (ys:List Sy) (bs:List (List AV)) (hx:ys.length < 1000):
  call F.tb 45 [.int .i64 k,.str n,.int .i64 l,.int .i64 m,.gp bs.length 0] (bs ++ [[.sl true 4 (XY ys)]])=some (.tup [],bs ++ [[.sl true 4 (XY (ys ++ [⟨n,l,m,k⟩]))]]):=by
 rw[Qb F.tb_45 _ _ rfl];have ha: (ys.length+1)*40≤140737488355328:=by omega
 have h1:XY (ys ++ [⟨n,l,m,k⟩])=XY ys ++ [[.str n,.int .i64 l,.int .i64 m,.int .i64 k]]:=by simp[XY,Wf]
 have h2:gpfreeE (XY ys ++ [[.str n,.int .i64 l,.int .i64 m,.int .i64 k]])=true:=by rw[← h1];exact HW _
 simp[F.f45,F.f45C,ha,h1,h2,List.take_of_length_le,gpfreeL]
theorem Qc8 (k l m:Int) (n:List UInt8) (bs:List (List AV)):
  call F.tb 45 [.int .i64 k,.str n,.int .i64 l,.int .i64 m,.gp bs.length 0] (bs ++ [[.sl true 4 []]])=some (.tup [],bs ++ [[.sl true 4 (XY [⟨n,l,m,k⟩])]]):=Eb k l m n [] bs (by simp)
theorem Ea (bs:List (List AV)):call F.tb 44 [] bs=some (.sl false 4 (XY YA),bs):=by
 rw[Qb F.tb_44 _ _ rfl];simp only[F.f44,F.f44C];simp[Qc8,Eb,YA]
def Zs (n:List UInt8):List Sy→Option Sy
 | []=>none
 | s:: ss=>if s.n=n then some s else Zs n ss
theorem Mu {l:List Sy} {pre post:List Sy} {s:Sy} (h:l=pre ++ s:: post): (XY l)[pre.length]? =some (Wf s):=by
 subst h;simp[XY]
theorem Cl (n:List UInt8) (l:List Sy) (bs:List (List AV)) (hn:l.length < 1000):
  ∀(post pre:List Sy) (ρ:Nat→AV),l=pre ++ post→ρ 0= .str n→ρ 2= .bx [.str [],.int .i64 0,.int .i64 0,.int .i64 0]→
   ρ 5= .sl false 4 (XY l)→ρ 6= .int .i64 l.length→ρ 7= .int .i64 pre.length→
  R F.tb (.loop F.f43l0) ρ bs (Ql 0 (Qr F.tb F.f43r0 (Qt F.f43 bs)))=
   some (.agg (match Zs n post with | some s=>Wf s | none=>[.str [],.int .i64 0,.int .i64 0,.int .i64 0]),bs):=by
 intro post
 induction post with
 | nil=>
  intro pre ρ hk h0 h2 h5 h6 h7;rw[Qc F.f43l0.eq_1];simp at hk;rw[← hk]at h7;simp[h0,h2,h5,h6,h7,F.f43r0,Zs]
 | cons x post IH=>
  intro pre ρ hk h0 h2 h5 h6 h7;have hg:=Mu hk;have hl:=Qx hk;have hw1:=wr1 pre.length (by omega);have hlt:=Qy hk;rw[Qc F.f43l0.eq_1];by_cases hx:x.n=n
  ·simp[h0,h2,h5,h6,h7,hg,hw1,hlt,Wf,hx,Zs]
  ·have hxb: (x.n == n)=false:=by simp[hx]
   simp[h0,h2,h5,h6,h7,hg,hw1,hlt,Wf,hx,hxb,Zs];rw[IH (pre ++ [x])] <;> simp[h0,h2,h5,h6,hk,Wf]
theorem Y8 (n:List UInt8) (bs:List (List AV)):call F.tb 43 [.str n] bs=some (.agg (match Zs n YA with | some s=>Wf s | none=>[.str [],.int .i64 0,.int .i64 0,.int .i64 0]),bs):=by
 rw[Qb F.tb_43 _ _ rfl];simp[F.f43C,Ea];refine Cl n YA bs (by simp[YA]) YA [] _ rfl ?_ ?_ ?_ ?_ ?_ <;> simp
end Go.Am
