/-
  Am21, Am22, Am23, Ge1, Ge2, Ge3, Ge4, Ge5, Ge6, Ge10, Ge11, Ge12.
-/
import Derived.Test.YtmlbijpbecpjoaaGreatDoorG10
import Derived.Test.YtmlbijpbecpjoaaGreatDoorG14
set_option linter.all false
open Go.Am.F
namespace Go.Am
abbrev Out:=Option (AV×List (List AV))
abbrev Kn:=Ex->St->Out
section
variable {T:Nat->Option AFn}
noncomputable def R (T:Vm) (c:AC) (ρ:Ql) (bs:Qa) (k:Kn):Out:=match run T c ⟨ρ,bs⟩with
 | some (e,s)=>k e s
 | none=>none
noncomputable def O (T:Vm) (os:Yj) (ρ:Ql) (bs:Qa) (k:Kn):Out:=match Z9 (call T) os ⟨ρ,bs⟩with
 | some s=>k .normal s
 | none=>none
noncomputable def E (T:Vm) (r:Option (AV×St)) (d:YI) (os:Yj) (k:Kn):Out:=match r with
 | some p=>O T os (YC p.2.env d p.1) p.2.bs k
 | none=>none
def XG (c b:Bool) (x y:Out):Out:=if c=b then x else y
noncomputable def QH (T:Vm) (b:AC) (k:Kn):Kn:=fun e s=>match e with
 | .normal=>match run T b s with
  | some (e,s)=>k e s
  | none=>none
 | e=>k e s
def Qq (id:Nat) (k:Kn):Kn:=fun e s=>match e with
 | .exit i=>k (if i=id then .normal else .exit i) s
 | e=>k e s
def QP (fn:Zi) (n:Qa):Kn:=fun e s=>match e with
 | .normal=>Xq fn n s
 | .ret=>Xq fn n s
 | .exit _=>none
def MW (x y:Out):XG true true x y=x:=rfl
def I2 (x y:Out):XG false false x y=x:=rfl
def I3 (x y:Out):XG true false x y=y:=rfl
def MV (x y:Out):XG false true x y=y:=rfl
def Co (c b:Bool) (x:Out):XG c b x x=x:=by unfold XG;split <;> rfl
def A0 (c b:Bool) (x y:Out):XG (!c) b x y=XG c (!b) x y:=by cases c <;> cases b <;> rfl
def WH (c b:Bool) (x y:Out):XG c b x y=if c=b then x else y:=rfl
def QmB (ρ:Ql) (bs:Qa) (k:Kn):R T .skip ρ bs k=k .normal ⟨ρ,bs⟩:=by simp only[R,DD]
def Qoj (ρ:Ql) (bs:Qa) (k:Kn):R T .ret ρ bs k=k .ret ⟨ρ,bs⟩:=by simp only[R,BM]
def Qmz (id:Nat) (ρ:Ql) (bs:Qa) (k:Kn):R T (.exit id) ρ bs k=k (.exit id) ⟨ρ,bs⟩:=by simp only[R,DA]
def Qoi (d:Bool) (ops:Yj) (ρ:Ql) (bs:Qa) (k:Kn):R T (.reg d ops) ρ bs k=O T ops ρ bs k:=by
 simp only[R,O,BL];cases Z9 (call T) ops ⟨ρ,bs⟩ <;> rfl
def Qok (a b:AC) (ρ:Ql) (bs:Qa) (k:Kn):R T (.seq a b) ρ bs k=R T a ρ bs (QH T b k):=by
 simp only[R,BN];cases run T a ⟨ρ,bs⟩with
 | none=>rfl
 | some x=>
  obtain⟨e,s⟩:=x;cases e <;> rfl
def QgQ (id:Nat) (c:AC) (ρ:Ql) (bs:Qa) (k:Kn):R T (.block id c) ρ bs k=R T c ρ bs (Qq id k):=by
 simp only[R,He];cases run T c ⟨ρ,bs⟩with
 | none=>rfl
 | some x=>
  obtain⟨e,s⟩:=x;cases e <;> rfl
def QmA (c:AC) (ρ:Ql) (bs:Qa) (k:Kn):R T (.loop c) ρ bs k=R T c ρ bs (QH T (.loop c) k):=by
 simp only[R];rw[DC];cases run T c ⟨ρ,bs⟩with
 | none=>rfl
 | some x=>
  obtain⟨e,s⟩:=x;cases e <;> rfl
def CH (b:AC) (k:Kn) (ρ:Ql) (bs:Qa):QH T b k .normal ⟨ρ,bs⟩=R T b ρ bs k:=rfl
def Qf5 (b:AC) (k:Kn) (s:St):QH T b k .ret s=k .ret s:=rfl
def Qd1 (b:AC) (k:Kn) (s:St) (id:Nat):QH T b k (.exit id) s=k (.exit id) s:=rfl
def Hm (id:Nat) (k:Kn) (s:St):Qq id k .normal s=k .normal s:=rfl
def Ar (id:Nat) (k:Kn) (s:St):Qq id k .ret s=k .ret s:=rfl
def D6 (id:Nat) (k:Kn) (s:St):Qq id k (.exit id) s=k .normal s:=by simp[Qq]
def Ck (fn:Zi) (k:Qa) (s:St):QP fn k .normal s=Xq fn k s:=rfl
def Qfe (fn:Zi) (k:Qa) (s:St):QP fn k .ret s=Xq fn k s:=rfl
noncomputable def AJ (T:Vm) (v:AV) (n:Nat) (a b:AC) (ρ:Ql) (bs:Qa) (k:Kn):Out:=match v with
 | .bool c=>XG c true (R T a (upd ρ n (.bool true)) bs k) (R T b (upd ρ n (.bool false)) bs k)
 | _=>none
def Ub {ρ:Ql} {n:Nat} {v:AV} (h:ρ n=v):upd ρ n v=ρ:=by
 funext j;unfold upd;split
 ·rename_i hj;rw[hj,h]
 ·rfl
def Qmy (n:Nat) (a b:AC) (ρ:Ql) (bs:Qa) (k:Kn):R T (.cond (.t n) a b) ρ bs k=AJ T (ρ n) n a b ρ bs k:=by
 simp only[R,Dz,val,AJ];cases h:ρ n <;> try rfl
 rename_i c;cases c
 ·simp only[AV.strip,MV,Ub h]
 ·simp only[AV.strip,MW,Ub h]
def AK (c:Bool) (n:Nat) (a b:AC) (ρ:Ql) (bs:Qa) (k:Kn):
  AJ T (.bool c) n a b ρ bs k=XG c true (R T a (upd ρ n (.bool true)) bs k) (R T b (upd ρ n (.bool false)) bs k):=rfl
def QnX (ρ:Ql) (bs:Qa) (k:Kn):O T [] ρ bs k=k .normal ⟨ρ,bs⟩:=rfl
def QjQ (d:YI) (op:AOp) (os:Yj) (ρ:Ql) (bs:Qa) (k:Kn):
  O T (⟨d,op,none⟩:: os) ρ bs k=E T (Qi (call T) op ⟨ρ,bs⟩) d os k:=by
 simp only[O,E,Z9,Z4];cases Qi (call T) op ⟨ρ,bs⟩ <;> rfl
noncomputable def Jp (T:Vm) (v:AV) (t:Nat) (b:Bool) (d:YI) (op:AOp) (os:Yj) (ρ:Ql) (bs:Qa) (k:Kn):Out:=match v with
 | .bool c=>XG c b (E T (Qi (call T) op ⟨upd ρ t (.bool b),bs⟩) d os k) (O T os (YC (upd ρ t (.bool (!b))) d (.tup [])) bs k)
 | .tup []=>O T os (YC ρ d (.tup [])) bs k
 | _=>none
def Ue (d:YI) (op:AOp) (t:Nat) (b:Bool) (os:Yj) (ρ:Ql) (bs:Qa) (k:Kn):
  O T (⟨d,op,some (t,b)⟩:: os) ρ bs k=Jp T (ρ t) t b d op os ρ bs k:=by
 simp only[O,Z9,Z4,Jp];cases h:ρ t <;> try rfl
 ·rename_i c;by_cases hcb:c=b
  ·subst hcb;simp only[XG,Zl,Ub h,E];cases Qi (call T) op ⟨ρ,bs⟩ <;> rfl
  ·have hcb2:c= !b:=by cases c <;> cases b <;> simp_all
   subst hcb2;simp only[XG,hcb,Zd,Ub h];rfl
 ·rename_i vs;cases vs <;> rfl
def UB (c:Bool) (t:Nat) (b:Bool) (d:YI) (op:AOp) (os:Yj) (ρ:Ql) (bs:Qa) (k:Kn):
  Jp T (.bool c) t b d op os ρ bs k=XG c b (E T (Qi (call T) op ⟨upd ρ t (.bool b),bs⟩) d os k) (O T os (YC (upd ρ t (.bool (!b))) d (.tup [])) bs k):=rfl
def Jq (t:Nat) (b:Bool) (d:YI) (op:AOp) (os:Yj) (ρ:Ql) (bs:Qa) (k:Kn):
  Jp T (.tup []) t b d op os ρ bs k=O T os (YC ρ d (.tup [])) bs k:=rfl
def QjN (v:AV) (ρ:Ql) (bs:Qa) (d:Nat) (os:Yj) (k:Kn):E T (some (v,⟨ρ,bs⟩)) (some d) os k=O T os (upd ρ d v) bs k:=rfl
def QgL (v:AV) (ρ:Ql) (bs:Qa) (os:Yj) (k:Kn):E T (some (v,⟨ρ,bs⟩)) none os k=O T os ρ bs k:=rfl
def QjM (d:YI) (os:Yj) (k:Kn):E T none d os k=none:=rfl
def Qd3 (ρ:Ql) (d:Nat) (v:AV):YC ρ (some d) v=upd ρ d v:=rfl
def Qd2 (ρ:Ql) (v:AV):YC ρ none v=ρ:=rfl
def P0 {f:Nat} {fn:Zi} (h:T f=some (.code fn)) (args:Qh) (bs:Qa) (hl:args.length=fn.nparams):
  call T f args bs=R T fn.body (XB args) bs (QP fn bs):=by
 rw[Ia,h];simp only[hl,Zl,R];cases run T fn.body ⟨XB args,bs⟩with
 | none=>rfl
 | some x=>
  obtain⟨e,s⟩:=x;cases e <;> rfl
def Wx {f:Nat} {g:Qh->Qa->Option (AV×Qa)} (h:T f=some (.orc g)) (args:Qh) (bs:Qa):call T f args bs=g args bs:=by
 rw[Ia,h]
def Qey (a:AV) (aq:Qh):XB (a:: aq) 0=a.strip:=rfl
def D5 (a:AV) (aq:Qh) (i:Nat):XB (a:: aq) (i+1)=XB aq i:=rfl
def U5 (ρ:Ql) (i:Nat) (v:AV):upd ρ i v i=v:=by simp[upd]
variable {K:Yo} (ρ:Nat->AV) (bs:List (List AV))
def Qpl (n:Nat):val ρ (.t n)=(ρ n).strip:=rfl
def Qpk (v:AV):val ρ (.c v)=v:=rfl
end
end Go.Am
namespace Go.Am
section
variable {T:Nat->Option AFn}
def PE (b:Bool):AV->Bool
 | .bool c=>c == !b
 | .tup []=>true
 | _=>false
noncomputable def O2 (T:Vm) (c:Bool) (_t:Nat) (b:Bool) (os:Yj) (ρ1 ρ2:Ql) (bs1 bs2:Qa) (k:Kn):Out:=
 if c=b then O T os ρ1 bs1 k else O T os ρ2 bs2 k
noncomputable def E2 (T:Vm) (c:Bool) (_t:Nat) (b:Bool) (r:Option (AV×St)) (d:YI) (os:Yj) (ρ2:Ql) (bs2:Qa) (k:Kn):Out:=
 if c=b then E T r d os k else O T os (YC ρ2 d (.tup [])) bs2 k
def YB (c b:Bool) (x y:AV):AV:=if c=b then x else y
def Kr (c b:Bool) (x y:Qa):Qa:=if c=b then x else y
def mrg (c b:Bool) (ρ1 ρ2:Ql):Ql:=fun j=>YB c b (ρ1 j) (ρ2 j)
def QiQ (c b:Bool) (ρ1 ρ2:Ql) (j:Nat):mrg c b ρ1 ρ2 j=YB c b (ρ1 j) (ρ2 j):=rfl
def CN (c:Bool) (t:Nat) (b:Bool) (os:Yj) (ρ1 ρ2:Ql) (bs1 bs2:Qa) (k:Kn):
  O2 T c t b os ρ1 ρ2 bs1 bs2 k=O T os (mrg c b ρ1 ρ2) (Kr c b bs1 bs2) k:=by
 unfold O2;split
 ·rename_i h;have:mrg c b ρ1 ρ2=ρ1:=by funext j;simp[mrg,YB,h]
  rw[this,Kr,Qn h]
 ·rename_i h;have:mrg c b ρ1 ρ2=ρ2:=by funext j;simp[mrg,YB,h]
  rw[this,Kr,Qm h]
def QjP (c:Bool) (t:Nat) (b:Bool) (ρ1 ρ2:Ql) (bs1 bs2:Qa) (k:Kn):
  O2 T c t b [] ρ1 ρ2 bs1 bs2 k=O T [] (mrg c b ρ1 ρ2) (Kr c b bs1 bs2) k:=CN c t b [] ρ1 ρ2 bs1 bs2 k
def QgN (c:Bool) (t:Nat) (b:Bool) (d:YI) (op:AOp) (os:Yj) (ρ1 ρ2:Ql) (bs1 bs2:Qa) (k:Kn):
  O2 T c t b (⟨d,op,none⟩:: os) ρ1 ρ2 bs1 bs2 k=O T (⟨d,op,none⟩:: os) (mrg c b ρ1 ρ2) (Kr c b bs1 bs2) k:=CN c t b _ ρ1 ρ2 bs1 bs2 k
def Qep (c:Bool) (t:Nat) (b:Bool) (d:YI) (op:AOp) (t':Nat) (b':Bool) (os:Yj) (ρ1 ρ2:Ql) (bs1 bs2:Qa) (k:Kn) (_h: ((t' == t) && (b' == b))=false):
  O2 T c t b (⟨d,op,some (t',b')⟩:: os) ρ1 ρ2 bs1 bs2 k=XG c b (O T (⟨d,op,some (t',b')⟩:: os) ρ1 bs1 k) (O T (⟨d,op,some (t',b')⟩:: os) ρ2 bs2 k):=by
 unfold O2 XG;rfl
def QgO (c:Bool) (t:Nat) (b:Bool) (d:YI) (op:AOp) (os:Yj) (ρ1 ρ2:Ql) (bs1 bs2:Qa) (k:Kn) (h1:ρ1 t= .bool b) (h2:PE b (ρ2 t)=true):
  O2 T c t b (⟨d,op,some (t,b)⟩:: os) ρ1 ρ2 bs1 bs2 k=E2 T c t b (Qi (call T) op ⟨ρ1,bs1⟩) d os ρ2 bs2 k:=by
 unfold O2 E2;split
 ·rw[Ue,h1,UB,WH,Qn rfl,Ub h1]
 ·rw[Ue];unfold PE at h2;split at h2
  ·rename_i c hc;rw[hc,UB];simp only[V7]at h2;subst h2;rw[WH,Qm (by cases b <;> simp),Ub hc]
  ·rename_i hc;rw[hc,Jq]
  ·cases h2
def QgK (c:Bool) (t:Nat) (b:Bool) (v:AV) (ρ1:Ql) (bs1:Qa) (d:YI) (os:Yj) (ρ2:Ql) (bs2:Qa) (k:Kn):
  E2 T c t b (some (v,⟨ρ1,bs1⟩)) d os ρ2 bs2 k=O2 T c t b os (YC ρ1 d v) (YC ρ2 d (.tup [])) bs1 bs2 k:=rfl
noncomputable def G (T:Vm) (v:AV) (d:YI) (op:AOp) (t:Nat) (b:Bool) (os:Yj) (ρ:Ql) (bs:Qa) (k:Kn):Out:=match v with
 | .bool c=>O2 T c t b (⟨d,op,some (t,b)⟩:: os) (upd ρ t (.bool b)) (upd ρ t (.bool (!b))) bs bs k
 | .tup []=>O T os (YC (upd ρ t (.tup [])) d (.tup [])) bs k
 | _=>none
def Ou (c:Bool) (d:YI) (op:AOp) (t:Nat) (b:Bool) (os:Yj) (ρ:Ql) (bs:Qa) (k:Kn):
  G T (.bool c) d op t b os ρ bs k=O2 T c t b (⟨d,op,some (t,b)⟩:: os) (upd ρ t (.bool b)) (upd ρ t (.bool (!b))) bs bs k:=rfl
def Qgl (d:YI) (op:AOp) (t:Nat) (b:Bool) (os:Yj) (ρ:Ql) (bs:Qa) (k:Kn):
  G T (.tup []) d op t b os ρ bs k=O T os (YC (upd ρ t (.tup [])) d (.tup [])) bs k:=rfl
def QgP (d:YI) (op:AOp) (t:Nat) (b:Bool) (os:Yj) (ρ:Ql) (bs:Qa) (k:Kn):
  O T (⟨d,op,some (t,b)⟩:: os) ρ bs k=G T (ρ t) d op t b os ρ bs k:=by
 cases h:ρ t <;> try (rw[Ue,h];rfl)
 ·rename_i c;rw[Ou];unfold O2;by_cases hcb:c=b
  ·subst hcb;simp[Ub h]
  ·have hcb2:c= !b:=by cases c <;> cases b <;> simp_all
   subst hcb2;rw[Ub h,Qm hcb]
 ·rename_i vs;cases vs with
  | nil=>rw[Qgl,Ue,h,Jq,Ub h]
  | cons v vs=>rw[Ue,h];rfl
def QjO (d:YI) (op:AOp) (t:Nat) (os:Yj) (ρ:Ql) (bs:Qa) (k:Kn):
  G T (.bool true) d op t true os ρ bs k=E T (Qi (call T) op ⟨upd ρ t (.bool true),bs⟩) d os k:=by
 rw[Ou];unfold O2;rw[Qn rfl,Ue,U5,UB,MW,Ub (U5 _ _ _)]
def QgM (d:YI) (op:AOp) (t:Nat) (os:Yj) (ρ:Ql) (bs:Qa) (k:Kn):
  G T (.bool false) d op t false os ρ bs k=E T (Qi (call T) op ⟨upd ρ t (.bool false),bs⟩) d os k:=by
 rw[Ou];unfold O2;rw[Qn rfl,Ue,U5,UB,I2,Ub (U5 _ _ _)]
def Qpt (d:YI) (op:AOp) (t:Nat) (os:Yj) (ρ:Ql) (bs:Qa) (k:Kn):
  G T (.bool true) d op t false os ρ bs k=O T os (YC (upd ρ t (.bool true)) d (.tup [])) bs k:=by
 rw[Ou];unfold O2;rw[Qm (by simp),Ue,U5];simp only[UB,I3,Bool.not_false];rw[Ub (U5 _ _ _)]
def Qps (d:YI) (op:AOp) (t:Nat) (os:Yj) (ρ:Ql) (bs:Qa) (k:Kn):
  G T (.bool false) d op t true os ρ bs k=O T os (YC (upd ρ t (.bool false)) d (.tup [])) bs k:=by
 rw[Ou];unfold O2;rw[Qm (by simp),Ue,U5];simp only[UB,MV,OL];rw[Ub (U5 _ _ _)]
def QdY (c b:Bool) (x:AV):YB c b x x=x:=by unfold YB;split <;> rfl
def QdV (c b:Bool) (x:Qa):Kr c b x x=x:=by unfold Kr;split <;> rfl
def QnP (c b:Bool) (x y z:AV):YB c b (YB c b x y) z=YB c b x z:=by unfold YB;split <;> simp_all
def QnQ (c b:Bool) (x y z:AV):YB c b x (YB c b y z)=YB c b x z:=by unfold YB;split <;> simp_all
def Qjq (c:Bool) (x y z:AV):YB c true (YB c false x y) z=YB c true y z:=by cases c <;> rfl
def Qjr (c:Bool) (x y z:AV):YB c true x (YB c false y z)=YB c true x y:=by cases c <;> rfl
def Qjn (c:Bool) (x y z:AV):YB c false (YB c true x y) z=YB c false y z:=by cases c <;> rfl
def Qjo (c:Bool) (x y z:AV):YB c false x (YB c true y z)=YB c false x y:=by cases c <;> rfl
def Qd0 (c:Bool) (x y:AV):YB c false x y=YB c true y x:=by cases c <;> rfl
def Qf3 (x y:AV):YB true true x y=x:=rfl
def QdX (x y:AV):YB false true x y=y:=rfl
def QdW (c x y:Bool):YB c true (.bool x) (.bool y)= .bool (bif c then x else y):=by cases c <;> rfl
def Qf2 (c:Bool) (k:IntKind) (x y:Int):YB c true (.int k x) (.int k y)= .int k (bif c then x else y):=by cases c <;> rfl
def QaH (c b:Bool) (x y:AV): (YB c b x y).strip=YB c b x.strip y.strip:=by unfold YB;split <;> rfl
def Qjp (c b:Bool) (x y:AV): (YB c b x y).ok=if c=b then x.ok else y.ok:=by unfold YB;split <;> rfl
def Qf4 (c b:Bool) (x y:AV): (YB c b x y).one=if c=b then x.one else y.one:=by unfold YB;split <;> rfl
def QdZ (c b d:Bool) (x y:AV):PE d (YB c b x y)=if c=b then PE d x else PE d y:=by unfold YB;split <;> rfl
def Cs (c b:Bool):PE b (.bool c)=(c == !b):=rfl
def A6 (b:Bool):PE b (.tup [])=true:=rfl
def Qal (v x y:AV) (s:St):Option (AV×St):=match v with
 | .bool c=>let v:=YB c true x y;if v.ok then some (v,s)else none
 | _=>none
def QmY {K:Yo} (c a b:AO) (ρ:Ql) (bs:Qa):Qi K (.pick c a b) ⟨ρ,bs⟩=Qal (val ρ c) (val ρ a) (val ρ b) ⟨ρ,bs⟩:=by
 simp only[Qi,Qal];cases val ρ c <;> try rfl
 rename_i x;cases x <;> rfl
def Qam (c:Bool) (x y:AV) (s:St):Qal (.bool c) x y s=if(YB c true x y).ok then some (YB c true x y,s)else none:=rfl
end
end Go.Am
namespace Go.Am
def QjF (ρ:Ql) (i:Nat) (v:AV) (j:Nat):upd ρ i v j=if j=i then v else ρ j:=rfl
def HE:AV.strip (.undef)= .undef:=rfl
def Qay:AV.ok (.undef)=false:=rfl
def Cz:AV.one (.undef)=false:=rfl
def Cy:AV.gpfree (.undef)=true:=rfl
def CD (k:IntKind) (n:Int):AV.strip (.int k n)= .int k n:=rfl
def QfS (k:IntKind) (n:Int):AV.ok (.int k n)=true:=rfl
def QdR (k:IntKind) (n:Int):AV.one (.int k n)=true:=rfl
def QdI (k:IntKind) (n:Int):AV.gpfree (.int k n)=true:=rfl
def DG (b:Bool):AV.strip (.bool b)= .bool b:=rfl
def QdN (b:Bool):AV.ok (.bool b)=true:=rfl
def QaA (b:Bool):AV.one (.bool b)=true:=rfl
def Qaw (b:Bool):AV.gpfree (.bool b)=true:=rfl
def CE:AV.strip (.nlp)= .nlp:=rfl
def QfT:AV.ok (.nlp)=true:=rfl
def QdS:AV.one (.nlp)=true:=rfl
def QdJ:AV.gpfree (.nlp)=true:=rfl
def DE:AV.strip (.anyb)= .anyb:=rfl
def QdM:AV.ok (.anyb)=true:=rfl
def Qaz:AV.one (.anyb)=true:=rfl
def Qav:AV.gpfree (.anyb)=true:=rfl
def CF (s:Qu):AV.strip (.str s)= .str s:=rfl
def QfU (s:Qu):AV.ok (.str s)=true:=rfl
def QdT (s:Qu):AV.one (.str s)=true:=rfl
def QdK (s:Qu):AV.gpfree (.str s)=true:=rfl
def CA (cs:Qh):AV.strip (.agg cs)= .agg cs:=rfl
def QfQ (cs:Qh):AV.ok (.agg cs)=true:=rfl
def QdP (cs:Qh):AV.one (.agg cs)=false:=rfl
def QdG (cs:Qh):AV.gpfree (.agg cs)=QY cs:=rfl
def QaG (o:Bool) (z:Nat) (xs:Qa):AV.strip (.sl o z xs)= .sl false z xs:=rfl
def Qjm (o:Bool) (z:Nat) (xs:Qa):AV.ok (.sl o z xs)=true:=rfl
def Qf0 (o:Bool) (z:Nat) (xs:Qa):AV.one (.sl o z xs)=true:=rfl
def QfP (o:Bool) (z:Nat) (xs:Qa):AV.gpfree (.sl o z xs)=Zw xs:=rfl
def QaC (cs:Qh):AV.strip (.bx cs)= .bx cs:=rfl
def Qji (cs:Qh):AV.ok (.bx cs)=false:=rfl
def QfW (cs:Qh):AV.one (.bx cs)=false:=rfl
def QfM (cs:Qh):AV.gpfree (.bx cs)=QY cs:=rfl
def QaE (i o:Nat):AV.strip (.gp i o)= .gp i o:=rfl
def Qjk (i o:Nat):AV.ok (.gp i o)=true:=rfl
def QfY (i o:Nat):AV.one (.gp i o)=true:=rfl
def QfO (i o:Nat):AV.gpfree (.gp i o)=false:=rfl
def QaF (i o z n:Nat):AV.strip (.gs i o z n)= .gs i o z n:=rfl
def Qjl (i o z n:Nat):AV.ok (.gs i o z n)=true:=rfl
def QfZ (i o z n:Nat):AV.one (.gs i o z n)=true:=rfl
def DH (cs:Qh):AV.strip (.rptr cs)= .rptr cs:=rfl
def QdO (cs:Qh):AV.ok (.rptr cs)=true:=rfl
def QaB (cs:Qh):AV.one (.rptr cs)=true:=rfl
def Qax (cs:Qh):AV.gpfree (.rptr cs)=QY cs:=rfl
def QaD (f:Nat) (cs:Qh):AV.strip (.fn f cs)= .fn f cs:=rfl
def Qjj (f:Nat) (cs:Qh):AV.ok (.fn f cs)=true:=rfl
def QfX (f:Nat) (cs:Qh):AV.one (.fn f cs)=true:=rfl
def QfN (f:Nat) (cs:Qh):AV.gpfree (.fn f cs)=QY cs:=rfl
def CG (vs:Qh):AV.strip (.tup vs)= .tup vs:=rfl
def QfV (vs:Qh):AV.ok (.tup vs)=true:=rfl
def QdU (vs:Qh):AV.one (.tup vs)=false:=rfl
def QdL (vs:Qh):AV.gpfree (.tup vs)=QY vs:=rfl
def CB (b:Bool):AV.strip (.err b)= .err b:=rfl
def QfR (b:Bool):AV.ok (.err b)=true:=rfl
def QdQ (b:Bool):AV.one (.err b)=true:=rfl
def QdH (b:Bool):AV.gpfree (.err b)=true:=rfl
def Qfo {α:Type} (p:Prop) [Decidable p] (a b c:α): (if p then(if p then a else b)else c)=if p then a else c:=by split <;> simp_all
def Qfn {α:Type} (p:Prop) [Decidable p] (a b c:α): (if p then a else(if p then b else c))=if p then a else c:=by split <;> simp_all
attribute [simp] CE QfT QdS QdJ HE Qay Cz Cy CD QfS QdR QdI DG QdN QaA Qaw DE QdM Qaz Qav CF QfU QdT QdK CA QfQ QdP QdG QaG Qjm Qf0 QfP QaC Qji QfW QfM QaE Qjk QfY QfO QaF Qjl QfZ DH QdO QaB Qax QaD Qjj QfX QfN CG QfV QdU QdL CB QfR QdQ QdH Qfo Qfn
attribute [simp] P8 QmB Qoj Qmz Qoi Qok QgQ Qmy QnX QjQ QgP QjN QgL QjM Qd3 Qd2 AK CH Qf5 Qd1 Hm Ar D6 Ck Qfe MW I3 I2 MV A0 Co Qi Qpl Qpk Qey D5 LW aun Xq X0 V9 QY Zw XH YY cellsOf put QjF QjP QgN Qep QgO QgK QiQ Ou Qgl Cs A6 QdY QdV QnP QnQ Qjq Qjr Qjn Qjo Qd0 Qf3 QdX QdW Qf2 QaH Qjp Qf4 QdZ Qam
attribute [simp ↓] QmY
attribute [simp 2000] QjO QgM Qpt Qps
def Cp (c:Bool) (x y:Out):XG c false x y=XG c true y x:=by cases c <;> rfl
def Cn (c x y:Bool) (s:Qa):XG c true (some (.bool x,s)) (some (.bool y,s))=some (.bool (bif c then x else y),s):=by cases c <;> rfl
def E0 (c:Bool) (k:IntKind) (x y:Int) (s:Qa):XG c true (some (.int k x,s)) (some (.int k y,s))=some (.int k (bif c then x else y),s):=by cases c <;> rfl
def Qg {T:Vm} {c c':AC} (h:c=c') (ρ:Ql) (bs:Qa) (k:Kn):R T (.loop c) ρ bs k=R T c' ρ bs (QH T (.loop c) k):=by
 subst h;exact QmA c ρ bs k
attribute [simp] toI
def Zf {α:Type} (x:α) (xs:List α): (x:: xs)[0]? =some x:=rfl
attribute [simp] Cp Cn E0 VQ Xy ZG Bool.cond_decide
def Zb {n:Int} (h1: -9223372036854775808<=n) (h2:n < 9223372036854775808):IntKind.i64.wrap n=n:=by
 simp only[IntKind.wrap_i64];omega
def wr1 (n:Nat) (h:n+1 < 9223372036854775808):IntKind.i64.wrap ((n:Int)+1)=(n:Int)+1:=Zb (by omega) (by omega)
def QL {α:Type} {l pre post:List α} {x:α} (h:l=pre ++ x:: post):l.length=pre.length+ (post.length+1):=by rw[h];simp
def QO {α:Type} {l pre post:List α} {x:α} (h:l=pre ++ x:: post): (pre.length:Int) < (l.length:Int):=by have:=QL h;omega
@[simp] def QqH (n:Nat) (vs:Qh):stV (.t n) vs=vs.map AV.strip:=rfl
@[simp] def QqE (z:Nat) (vs:Qh):stV (.c (.sl true z [])) vs=vs.map fun _=> .sl true z []:=rfl
@[simp] def QqD (k:IntKind) (n:Int) (vs:Qh):stV (.c (.int k n)) vs=vs.map AV.strip:=rfl
@[simp] def QqF (s:Qu) (vs:Qh):stV (.c (.str s)) vs=vs.map AV.strip:=rfl
@[simp] def Qqk (b:Bool) (vs:Qh):stV (.c (.bool b)) vs=vs.map AV.strip:=rfl
@[simp] def QqB (cs:Qh) (vs:Qh):stV (.c (.agg cs)) vs=vs.map AV.strip:=rfl
@[simp] def QqC (b:Bool) (vs:Qh):stV (.c (.err b)) vs=vs.map AV.strip:=rfl
@[simp] def Qqu (i o k:Nat):RA (.gs i o 0 0) (.sl true k [])= .sl true k []:=rfl
@[simp] def Qp9 (k:IntKind) (n:Int) (z:AV):RA (.int k n) z= .int k n:=rfl
@[simp] def Qqa (s:Qu) (z:AV):RA (.str s) z= .str s:=rfl
@[simp] def Qpq (b:Bool) (z:AV):RA (.bool b) z= .bool b:=rfl
@[simp] def Qqv (o:Bool) (k:Nat) (xs:Qa) (z:AV):RA (.sl o k xs) z= .sl false k xs:=rfl
attribute [simp] WZ
@[simp] def Qpi (i:Nat):AV.strip (.mp i)= .mp i:=rfl
@[simp] def QnO (z:Nat) (xs:Qa) (vs:Qh):AV.strip (.otup z xs vs)= .tup (.sl false z xs:: vs):=rfl
@[simp] def Qpr (z:Nat) (xs:Qa) (vs:Qh):AV.ok (.otup z xs vs)=true:=rfl
@[simp] def Qpe (z:Nat) (xs:Qa) (vs:Qh):AV.gpfree (.otup z xs vs)=(Zw xs && QY vs):=rfl
@[simp] def Qpj (z:Nat) (cs:Qh):AV.strip (.pv z cs)= .pv z cs:=rfl
@[simp] def QqA (z:Nat) (cs:Qh):AV.ok (.pv z cs)=false:=rfl
@[simp] def Qqz (i:Nat):AV.ok (.mp i)=true:=rfl
@[simp] def Qqj (i:Nat):AV.one (.mp i)=true:=rfl
@[simp] def Qqf (i:Nat):AV.gpfree (.mp i)=false:=rfl
def K6:=@Bool.true_or
@[simp] def P3: ∀bs:Qa,X6 bs bs=true
 | []=>rfl
 | x:: xs=>by simp only[X6,Xj,P3 xs,K6,VL]
@[simp] def Qpx (ys:Qa):X6 [] ys=true:=rfl
@[simp] def Cf (a b c:Qa):X6 (a ++ b) (a ++ c)=X6 b c:=by
 induction a with
 | nil=>rfl
 | cons x xs ih=>simp only[WV,X6,Xj,ih,K6,VL]
@[simp] def Qpw (a c:Qa):X6 a (a ++ c)=true:=by
 have:=Cf a [] c;simpa using this
@[simp] def Qpm (x:Qh) (xs ys:Qa):X6 (x:: xs) (x:: ys)=X6 xs ys:=by simp only[X6,Xj,K6,VL]
@[simp] def Et {cs:Qh} (h:QY cs=true): ∀(bs:Qa) (i:Nat),X6 bs (bs.set i cs)=true
 | [],_=>rfl
 | x:: xs,0=>by simp only[List.set_cons_zero,X6,h,P3,Bool.or_true,Ro]
 | x:: xs,i+1=>by simp only[List.set_cons_succ,X6,Xj,Et h xs i,K6,Ro]
def Ib: ∀{xs ys:Qa},xs.length<=ys.length->(∀(i:Nat) (x y:Qh),xs[i]? =some x->ys[i]? =some y->x=y\/QY y=true)->X6 xs ys=true
 | [],_,_,_=>rfl
 | _:: _,[],h,_=>by simp at h
 | x:: xs,y:: ys,h,hh=>by
  simp only[X6,Qo,Vu];refine⟨?_,Ib (by simpa using h) fun i a b ha hb=>hh (i+1) a b (by simpa using ha) (by simpa using hb)⟩;rcases hh 0 x y rfl rfl with h1 | h1
  ·subst h1;exact .inl (Xj x)
  ·exact .inr h1
@[simp] def Qqs {x y:Qh} (h:QY y=true) (xs ys:Qa):X6 (x:: xs) (y:: ys)=X6 xs ys:=by simp only[X6,h,Bool.or_true,VL]
@[simp] def QnV:QY []=true:=rfl
@[simp] def EY (x:AV) (xs:Qh):QY (x:: xs)=(x.gpfree && QY xs):=rfl
@[simp] def Cm: ∀n:Nat,QY (List.replicate n .undef)=true
 | 0=>rfl
 | n+1=>by rw[OG,EY,Cm n];rfl
@[simp] def Eu (bs:Qa) (i:Nat):X6 bs (bs.set i [])=true:=Et rfl bs i
@[simp] def Qpg (t i n:Nat):AV.strip (.gb t i n)= .gb t i n:=rfl
@[simp] def Qqx (t i n:Nat):AV.ok (.gb t i n)=true:=rfl
@[simp] def Qqh (t i n:Nat):AV.one (.gb t i n)=true:=rfl
@[simp] def Qqd (t i n:Nat):AV.gpfree (.gb t i n)=false:=rfl
@[simp] def Qph (t i:Nat):AV.strip (.gt t i)= .gt t i:=rfl
@[simp] def Qqy (t i:Nat):AV.ok (.gt t i)=true:=rfl
@[simp] def Qqi (t i:Nat):AV.one (.gt t i)=true:=rfl
@[simp] def Qqe (t i:Nat):AV.gpfree (.gt t i)=false:=rfl
@[simp] def Qpf (f:Nat) (cs:Qh):AV.strip (.bf f cs)= .bf f cs:=rfl
@[simp] def Qqw (f:Nat) (cs:Qh):AV.ok (.bf f cs)=true:=rfl
@[simp] def Qqg (f:Nat) (cs:Qh):AV.one (.bf f cs)=true:=rfl
@[simp] def Qqc (f:Nat) (cs:Qh):AV.gpfree (.bf f cs)=QY cs:=by simp only[AV.gpfree]
def zcc (n:Nat) {fn:Zi} (h:tb n=some (.code fn)) {args:Qh} {bs:Qa} (hl:args.length=fn.nparams):
  call tb n args bs=R tb fn.body (XB args) bs (QP fn bs):=P0 h args bs hl
end Go.Am
namespace Go.Am
set_option maxRecDepth 20000
def ME (a b:Int) (bs:Qa):call tb 32 [.int .i64 a,.int .i64 b] bs=some (.int .i64 (if a < b then -1 else if a > b then 1 else 0),bs):=by
 rw[zcc 32 rfl rfl];simp[f32,f32C]
def Sw (c:UInt8):Bool:=(97<=c.toNat && c.toNat<=122) || (65<=c.toNat && c.toNat<=90) || (48<=c.toNat && c.toNat<=57) || c.toNat == 95 || c.toNat == 35
def FU:=@Bool.eq_iff_iff
def Eo (n m:Nat): ((n:Int) == (m:Int))=(n == m):=by rw[FU,V7,V7];omega
def Je (n:Nat): ((n:Int) == 95)=(n == 95):=Eo n 95
def Jd (n:Nat): ((n:Int) == 35)=(n == 35):=Eo n 35
def MD (c:UInt8) (bs:Qa):call tb 9 [.int .u8 c.toNat] bs=some (.bool (Sw c),bs):=by
 rw[zcc 9 rfl rfl];simp (config:={maxSteps:=1000000}) [f9,f9C,Sw,Je,Jd];have e1: ∀m:Nat,((m:Int)<=(c.toNat:Int))=(m<=c.toNat):=fun m=>by simp
 have e2: ∀m:Nat,((c.toNat:Int)<=(m:Int))=(c.toNat<=m):=fun m=>by simp
 simp only[show(97:Int)=((97:Nat):Int)from rfl,show(122:Int)=((122:Nat):Int)from rfl,show(65:Int)=((65:Nat):Int)from rfl,show(90:Int)=((90:Nat):Int)from rfl,show(48:Int)=((48:Nat):Int)from rfl,show(57:Int)=((57:Nat):Int)from rfl,e1,e2];by_cases h1:97<=c.toNat <;> by_cases h2:c.toNat<=122 <;> by_cases h3:65<=c.toNat <;> by_cases h4:c.toNat<=90 <;> by_cases h5:48<=c.toNat <;> by_cases h6:c.toNat<=57 <;> simp[h1,h2,h3,h4,h5,h6]
def Cr (s:Qu) (bs:Qa) (hs:s.length < 4611686018427387904): ∀(k i:Nat) (ρ:Ql),s.length - i=k->i<=s.length->ρ 0= .str s->ρ 38= .int .i64 s.length->ρ 39= .int .i64 i->
  R tb (.loop f8l0) ρ bs (Qq 0 (QH tb f8r0 (QP f8 bs)))=some (.bool ((s.drop i).all Sw),bs):=by
 intro k
 induction k with
 | zero=>
  intro i ρ hk hi h0 h38 h39;have:i=s.length:=by omega
  subst this;rw[Qg f8l0.eq_1];simp[h0,h38,h39,f8r0]
 | succ k ih=>
  intro i ρ hk hi h0 h38 h39;have hlt:i < s.length:=by omega
  have hw:IntKind.i64.wrap ((i:Int)+1)=((i+1:Nat):Int):=Zb (by omega) (by omega);rw[Qg f8l0.eq_1,KF hlt,Sh];cases hb:Sw s[i]
  ·simp[h0,h38,h39,hlt,MD,hb]
  ·simp[h0,h38,h39,hlt,MD,hb,hw];rw[ih (i+1)] <;> first | rfl | omega | simp[h0,h38]
def WY:Qu->Bool
 | []=>false
 | c:: r=>decide (r.length < 24) && Sw c && !(decide (48<=c.toNat) && decide (c.toNat<=57)) && c.toNat != 95 && c.toNat != 35 && r.all Sw
def WL:=@eq_iff_iff
def Cc (s:Qu) (bs:Qa) (hs:s.length < 4611686018427387904):call tb 8 [.str s] bs=some (.bool (WY s),bs):=by
 rw[zcc 8 rfl rfl];cases s with
 | nil=>simp[f8C,WY]
 | cons c r=>
  have hl:=Cr (c:: r) bs hs ((c:: r).length - 0) 0;simp (config:={maxSteps:=1000000}) [f8C,MD,hl,Je,Jd];have e1: (24 < (r.length:Int)+1)=(¬r.length < 24):=by rw[WL];omega
  have e2: ((48:Int)<=(c.toNat:Int))=(48<=c.toNat):=by rw[WL];omega
  have e3: ((c.toNat:Int)<=57)=(c.toNat<=57):=by rw[WL];omega
  simp only[WY,e1,e2,e3,bne];by_cases h1:r.length < 24 <;> by_cases h2:48<=c.toNat <;> by_cases h3:c.toNat<=57 <;> cases Sw c <;> simp[h1,h2,h3]
end Go.Am
namespace Go.Am
set_option maxRecDepth 20000
attribute [simp] Ig Ih
attribute [simp] Tg Z7 S1 Zx
attribute [simp] UW MP XF Z6 Qk IU QcT QcU QcV QcW Bn Bo Bp Bq Lr XT
attribute [simp] Int.toNat_natCast
attribute [simp] Ig Ih
def Me (t:Tm) (bs:Qa) (hm:t.mass < big) (ih: ∀x∈t.kids,∀bs,call tb 31 [.agg (Qf x)] bs=some (.int .i64 x.nodes,bs)):
  ∀(post pre:Qe) (ρ:Ql),t.kids=pre ++ post->ρ 7= .sl false 4 (Qb t.kids)->ρ 8= .int .i64 t.kids.length->ρ 9= .int .i64 pre.length->ρ 3= .int .i64 (1+QB pre:Nat)->
  R tb (.loop f31l0) ρ bs (Qq 0 (QH tb f31r0 (QP f31 bs)))=some (.int .i64 t.nodes,bs):=by
 have hm2:=QF t;have hn:=YP t.kids;unfold big at hm;intro post
 induction post with
 | nil=>
  intro pre ρ hk h7 h8 h9 h3;rw[Qg f31l0.eq_1];simp at hk;simp[h3,h8,h9,<- hk,f31r0,Wg]
 | cons x post IH=>
  intro pre ρ hk h7 h8 h9 h3;have hg:=Qx hk;have hl:=QL hk;have hnn:QB t.kids=QB pre+ (x.nodes+QB post):=by rw[hk,XO];simp[QB]
  have hw1:=wr1 pre.length (by omega);have hw2:IntKind.i64.wrap (1+ (QB pre:Int)+ (x.nodes:Int))=1+ (QB pre:Int)+ (x.nodes:Int):=Zb (by omega) (by omega);have hlt:=QO hk;rw[Qg f31l0.eq_1];simp[h3,h7,h8,h9,hg,hw1,hw2,hlt,ih x (by rw[hk];simp)];rw[IH (pre ++ [x])] <;> simp[h3,h7,h8,h9,hk,XO,QB];omega
def Rs: ∀(t:Tm) (bs:Qa),t.mass < big->call tb 31 [.agg (Qf t)] bs=some (.int .i64 t.nodes,bs):=by
 refine Yn ?_;intro k n s ks ih bs hm;rw[zcc 31 rfl rfl];simp[f31C];refine Me (.mk k n s ks) bs hm (fun x hx bs=>ih x hx bs ?_) ks [] _ ?_ ?_ ?_ ?_ ?_ <;> (try simp[QB]);have:=Q4 hx;have:=QF (.mk k n s ks);simp at *;omega
end Go.Am
namespace Go.Am
set_option maxRecDepth 20000
def two (bs:Qa) (i j:Nat) (n d:Int):Qa:=(bs.set i [.int .i64 n]).set j [.int .i64 d]
section
variable {bs:List (List AV)} {i j:Nat} {n d m:Int}
def R5: (two bs i j n d).length=bs.length:=by simp[two]
def QgE (hi:i < bs.length) (hij:i≠j): (two bs i j n d)[i]? =some [.int .i64 n]:=by
 rw[two,Vs (Ne.symm hij),Sj hi]
def QgF (hj:j < bs.length): (two bs i j n d)[j]? =some [.int .i64 d]:=by simp[two,hj]
def Qgh (hij:i≠j): (two bs i j n d).set i [.int .i64 m]=two bs i j m d:=by
 simp only[two];rw[List.set_comm _ _ (Ne.symm hij),OM]
@[simp] def Ev {n' d':Int}:X6 (two bs i j n d) (two bs i j n' d')=true:=Ib (by simp[R5]) fun k x y hx hy=>by
 unfold two at hx hy;rw[Y8]at hx hy;split at hy
 ·split at hy
  ·injection hy with hy;subst hy;exact .inr rfl
  ·cases hy
 ·rename_i hjk;rw[Qm hjk]at hx;rw[Y8]at hx hy;split at hy
  ·split at hy
   ·injection hy with hy;subst hy;exact .inr rfl
   ·cases hy
  ·rename_i hik;rw[Qm hik,hy]at hx;injection hx with hx
   exact .inl hx.symm
def Qgi: (two bs i j n d).set j [.int .i64 m]=two bs i j n m:=by simp[two]
end
def RI (t:Tm):Int:=
 if t.kind=1\/t.kind=2 then
  if(t.sort < 0\/5 < t.sort)\/0 < t.kids.length then 1 else if WY t.name=false then 2 else if 8 < t.kids.length then 3 else 0
 else if t.kind=3 then
  if t.sort≠0 then 1 else if WY t.name=false then 2 else if 8 < t.kids.length then 3 else 0
 else 1
mutual
def Vb:Tm->Int
 | .mk k n s ks=>if RI (.mk k n s ks)≠0 then RI (.mk k n s ks)else UX ks
def UX:List Tm->Int
 | []=>0
 | t:: ts=>if Vb t≠0 then Vb t else UX ts
end
mutual
def Uj:Tm->Int->Int×Int->Int×Int
 | .mk k n s ks,l,p=>if RI (.mk k n s ks)≠0 then(p.1+1,if l > p.2 then l else p.2)else Tr ks l (p.1+1,if l > p.2 then l else p.2)
def Tr:List Tm->Int->Int×Int->Int×Int
 | [],_,p=>p
 | t:: ts,l,p=>if Vb t≠0 then Uj t (l+1) p else Tr ts l (Uj t (l+1) p)
end
mutual
theorem Bf: ∀(t:Tm) (l:Int) (p:Int×Int),p.1<=(Uj t l p).1/\(Uj t l p).1<=p.1+t.nodes
 | .mk k n s ks,l,p=>by
  simp only[Uj,Tm.nodes];have:=Bd ks l (p.1+1,if l > p.2 then l else p.2);split <;> simp at * <;> omega
theorem Bd: ∀(ts:List Tm) (l:Int) (p:Int×Int),p.1<=(Tr ts l p).1/\(Tr ts l p).1<=p.1+QB ts
 | [],l,p=>by simp[Tr,QB]
 | t:: ts,l,p=>by
  simp only[Tr,QB];have:=Bf t (l+1) p;have:=Bd ts l (Uj t (l+1) p);split <;> omega
end
def AE (t:Tm) (l:Int) (bs:Qa) (i j:Nat) (hi:i < bs.length) (hj:j < bs.length) (hij:i≠j) (hm:t.mass < big) (hl:0<=l/\l+t.depth<=big) (n0 d0:Int)
  (ih: ∀x∈t.kids,∀n d:Int,0<=n->n+x.nodes < 2*big->call tb 7 [.agg (Qf x),.int .i64 (l+1),.gp i 0,.gp j 0] (two bs i j n d)=some (.int .i64 (Vb x),two bs i j (Uj x (l+1) (n,d)).1 (Uj x (l+1) (n,d)).2)):
  ∀(post pre:Qe) (n d:Int) (ρ:Ql),0<=n->n+QB post < 2*big->t.kids=pre ++ post->ρ 57= .sl false 4 (Qb t.kids)->ρ 58= .int .i64 t.kids.length->ρ 59= .int .i64 pre.length->
   ρ 1= .int .i64 l->ρ 2= .gp i 0->ρ 3= .gp j 0->
  R tb (.loop f7l0) ρ (two bs i j n d) (Qq 1 (QH tb f7r0 (QP f7 (two bs i j n0 d0))))=
   some (.int .i64 (UX post),two bs i j (Tr post l (n,d)).1 (Tr post l (n,d)).2):=by
 have hm2:=QF t;have hdp:=Nl t;unfold big at *;have hji:=Ne.symm hij;intro post
 induction post with
 | nil=>
  intro pre n d ρ hn hnb hk h57 h58 h59 h1 h2 h3;rw[Qg f7l0.eq_1];simp at hk;simp[h1,h2,h3,h57,h58,h59,<- hk,f7r0,UX,Tr,R5];rw[Yy (by simp[R5])];exact⟨Ev,rfl⟩
 | cons x post IH=>
  intro pre n d ρ hn hnb hk h57 h58 h59 h1 h2 h3;have hg:=Qx hk;have hlen:t.kids.length=pre.length+ (post.length+1):=by rw[hk];simp
  simp only[QB]at hnb;have hw1:=wr1 pre.length (by omega);have hw2:IntKind.i64.wrap (l+1)=l+1:=Zb (by omega) (by omega);have hlt: (pre.length:Int) < (t.kids.length:Int):=by omega
  have hx:=ih x (by rw[hk];simp) n d hn (by omega);have hc:=Bf x (l+1) (n,d);rw[Qg f7l0.eq_1];by_cases he:Vb x=0
  ·simp[h1,h2,h3,h57,h58,h59,hg,hw1,hw2,hlt,hx,he];simp only[UX,Tr,he,ne_eq,not_true,Zd];rw[IH (pre ++ [x])] <;> (first | (simp at hc;omega) | simp[h1,h2,h3,h57,h58,h59,hk])
  ·simp[h1,h2,h3,h57,h58,h59,hg,hw1,hw2,hlt,hx,he,UX,Tr];rw[Yy (by simp[R5])];exact⟨Ev,rfl⟩
def AA: ∀(t:Tm) (l:Int) (bs:Qa) (i j:Nat) (n d:Int),i < bs.length->j < bs.length->i≠j->t.mass < big->0<=l->l+t.depth<=big->0<=n->n+t.nodes < 2*big->
  call tb 7 [.agg (Qf t),.int .i64 l,.gp i 0,.gp j 0] (two bs i j n d)=some (.int .i64 (Vb t),two bs i j (Uj t l (n,d)).1 (Uj t l (n,d)).2):=by
 refine Yn ?_;intro k nm s ks ih l bs i j n d hi hj hij hm hl hld hn hnb;have hm2:=QF (.mk k nm s ks);have hnn:=Wg (.mk k nm s ks);have hdp:=Nl (.mk k nm s ks);simp only[Zx,Z7]at hm2 hnn hdp;have hdl:=UJ ks;have hnm:=YP ks;have hloop: ∀ρ:Ql,ρ 57= .sl false 4 (Qb ks)->ρ 58= .int .i64 ks.length->ρ 59= .int .i64 0->
   ρ 1= .int .i64 l->ρ 2= .gp i 0->ρ 3= .gp j 0->
  R tb (.loop f7l0) ρ (two bs i j (n+1) (if l > d then l else d)) (Qq 1 (QH tb f7r0 (QP f7 (two bs i j n d))))=
   some (.int .i64 (UX ks),two bs i j (Tr ks l (n+1,if l > d then l else d)).1 (Tr ks l (n+1,if l > d then l else d)).2):=by
  intro ρ h57 h58 h59 h1 h2 h3;refine AE (.mk k nm s ks) l bs i j hi hj hij hm ⟨hl,hld⟩ n d ?_ ks [] (n+1) (if l > d then l else d) ρ (by omega) (by omega) rfl h57 h58 h59 h1 h2 h3;intro x hx n d hn hnb;have h1:=Q4 hx;have h2:=Jg hx;simp only[Zx]at h1 h2;exact ih x hx (l+1) bs i j n d hi hj hij (by omega) (by omega) (by omega) hn hnb
 unfold big at hm hnb;have hw:IntKind.i64.wrap (n+1)=n+1:=Zb (by omega) (by omega);have hji:=Ne.symm hij;have htk: ∀(a b:Int),List.take bs.length (two bs i j a b)=two bs i j a b:=fun a b=>Yy (by simp[R5]);have hnl:nm.length < 4611686018427387904:=by omega
 have hks: ((8:Int) < ks.length)=(8 < ks.length):=by rw[WL];omega
 rw[zcc 7 rfl rfl];simp (config:={maxSteps:=1000000}) [f7C,hw,QgE hi hij,QgF hj,Qgh hij,Qgi,R5,Cc,hnl,htk,hks];simp only[gt_iff_lt]at hloop;clear ih hm hl hld hn hnb hm2 hnn hdp hdl hnm hw htk hnl hks hi hj hij hji;generalize hdd: (if d < l then l else d)=d' at *;simp only[WH,Qv,Vu]
 repeat' split
 all_goals simp only[Vb,Uj,RI,Tg,S1,Z7,Zx,gt_iff_lt,hdd]
 all_goals first
  | (rw[hloop] <;> simp[*];done)
  | (simp[*];done)
  | skip
def Zg (t:Tm):Int:=if Vb t≠0 then Vb t else if 400 < t.nodes\/40 < t.depth then 3 else 0
mutual
theorem Bg: ∀(t:Tm) (l:Int) (p:Int×Int),Vb t=0->Uj t l p=(p.1+t.nodes,max p.2 (l+t.depth - 1))
 | .mk k n s ks,l,p,h=>by
  simp only[Vb]at h;split at h
  ·rename_i hne;exact absurd h hne
  ·rename_i hne;simp only[Uj,hne,Zd,Tm.nodes,Tm.depth];rw[Be ks l _ h];refine Prod.ext ?_ ?_
   ·simp;omega
   ·cases ks with
    | nil=>simp[Y9,QB];split <;> omega
    | cons t ts=>simp[Y9];split <;> omega
theorem Be: ∀(ts:List Tm) (l:Int) (p:Int×Int),UX ts=0->Tr ts l p=(p.1+QB ts,if ts=[]then p.2 else max p.2 (l+Y9 ts))
 | [],l,p,_=>by simp[Tr,QB]
 | t:: ts,l,p,h=>by
  simp only[UX]at h;split at h
  ·rename_i hne;exact absurd h hne
  ·rename_i hne;have he:Vb t=0:=by simpa using hne
   simp only[Tr,hne,Zd,QB,Y9];rw[Be ts l _ h,Bg t (l+1) p he];refine Prod.ext ?_ ?_
   ·simp;omega
   ·cases ts with
    | nil=>simp[Y9];omega
    | cons u us=>simp[Y9];omega
end
def Ui (t:Tm) (bs:Qa) (hm:t.mass < big):call tb 6 [.agg (Qf t)] bs=some (.int .i64 (Zg t),bs):=by
 have h2:bs ++ [[AV.int .i64 0],[AV.int .i64 0]]=two (bs ++ [[AV.int .i64 0],[AV.int .i64 0]]) bs.length (bs.length+1) 0 0:=by
  simp[two]
 have hn:=Yx t;have hd:=OR t;have hb:big=1099511627776:=rfl;have hc:=AA t 1 (bs ++ [[AV.int .i64 0],[AV.int .i64 0]]) bs.length (bs.length+1) 0 0 (by simp) (by simp) (by omega) hm (by omega) (by omega) (by omega) (by omega);rw[<- h2]at hc;have hi:=QgE (bs:=bs ++ [[AV.int .i64 0],[AV.int .i64 0]]) (i:=bs.length) (j:=bs.length+1) (n:=(Uj t 1 (0,0)).1) (d:=(Uj t 1 (0,0)).2) (by simp) (by omega);have hj:=QgF (bs:=bs ++ [[AV.int .i64 0],[AV.int .i64 0]]) (i:=bs.length) (j:=bs.length+1) (n:=(Uj t 1 (0,0)).1) (d:=(Uj t 1 (0,0)).2) (by simp);have htk:List.take bs.length (two (bs ++ [[AV.int .i64 0],[AV.int .i64 0]]) bs.length (bs.length+1) (Uj t 1 (0,0)).1 (Uj t 1 (0,0)).2)=bs:=by
  simp[two]
 have hcnt:=Bg t 1 (0,0);rw[zcc 6 rfl rfl];simp[f6C,hc,hi,hj,htk,Zg];by_cases he:Vb t=0
 ·have:=Nl t;have e1: (400 < (t.nodes:Int))=(400 < t.nodes):=by rw[WL];omega
  have e2: (40 < (max 0 (1+ (t.depth:Int) - 1)))=(40 < t.depth):=by rw[WL];omega
  simp[he,hcnt he,e1,e2,WH]
 ·simp[he]
end Go.Am
namespace Go.Am
set_option maxRecDepth 20000
def Nc (a b:Int) (bs:Qa):call tb 32 [.int .i64 a,.int .i64 b] bs=some (.int .i64 (sgn a b),bs):=ME a b bs
def L6 (a b:Qu) (bs:Qa):call tb 33 [.str a,.str b] bs=some (.int .i64 (Wy a b),bs):=by
 rw[Wx tb_33];rfl
def R6 (t u:Tm) (bs:Qa) (hm:t.mass < big) (hu:u.mass < big)
  (ih: ∀x∈t.kids,∀y bs,y.mass < big->call tb 30 [.agg (Qf x),.agg (Qf y)] bs=some (.int .i64 (Qp x y),bs)):
  ∀(xs ys pre pre':Qe) (c:Int) (ρ:Ql),t.kids=pre ++ xs->u.kids=pre' ++ ys->pre.length=pre'.length->(c=0->xs.length=ys.length)->
   ρ 2= .bx (Qf t)->ρ 3= .bx (Qf u)->ρ 5= .int .i64 c->ρ 6= .int .i64 pre.length->
  R tb (.loop f30l0) ρ bs (Qq 0 (QH tb f30r0 (QP f30 bs)))=some (.int .i64 (or0 c (Xs xs ys)),bs):=by
 have hm2:=QF t;have hu2:=QF u;intro xs
 induction xs with
 | nil=>
  intro ys pre pre' c ρ hk hk' hp hc h2 h3 h5 h6;rw[Qg f30l0.eq_1];simp at hk;by_cases h0:c=0
  ·simp[h2,h3,h5,h6,h0,f30r0,hk,Xs,HQ]
  ·simp[h2,h3,h5,h6,h0,f30r0,Xs,HQ]
 | cons x xs IH=>
  intro ys pre pre' c ρ hk hk' hp hc h2 h3 h5 h6;rw[Qg f30l0.eq_1];by_cases h0:c=0
  ·obtain⟨y,ys',rfl⟩: ∃y ys',ys=y:: ys':=by
    have:=hc h0;cases ys with
    | nil=>simp at this
    | cons y ys'=>exact⟨y,ys',rfl⟩
   have hg:=Qx hk;have hg':=Qx hk';rw[<- hp]at hg';have hl:t.kids.length=pre.length+ (xs.length+1):=by rw[hk];simp
   have hlt: (pre.length:Int) < (t.kids.length:Int):=by omega
   have hym:y.mass < big:=by have:=Q4 (x:=y) (ks:=u.kids) (by rw[hk'];simp);omega
   unfold big at hm hu;have hw1:=wr1 pre.length (by omega);simp[h2,h3,h5,h6,h0,hlt,hg,hg',hw1,ih x (by rw[hk];simp) y bs hym];rw[IH ys' (pre ++ [x]) (pre' ++ [y]) (Qp x y)] <;> first | omega | (simp[hk,hk',hp,h2,h3,Xs,Tl];done) | (intro _;have:=hc h0;simp at this;omega)
  ·simp[h2,h3,h5,h6,h0,f30r0,Xs,Sv]
def call_Compare: ∀(t u:Tm) (bs:Qa),t.mass < big->u.mass < big->call tb 30 [.agg (Qf t),.agg (Qf u)] bs=some (.int .i64 (Qp t u),bs):=by
 refine Yn ?_;intro k n s ks ih u bs hm hu;have hloop:=R6 (.mk k n s ks) u bs hm hu (fun x hx y bs hy=>ih x hx y bs (by have:=Q4 hx;have:=QF (.mk k n s ks);simp at *;omega) hy) ks u.kids [] [] (hdT (.mk k n s ks) u);rw[zcc 30 rfl rfl,SQ];have hsz:=Rs (.mk k n s ks) bs hm;have hsz':=Rs u bs hu;simp[f30C,hsz,hsz',Nc,L6];by_cases c1:sgn (Tm.mk k n s ks).nodes u.nodes=0 <;> by_cases c2:sgn k u.kind=0 <;> by_cases c3:Wy n u.name=0 <;> by_cases c4:sgn s u.sort=0 <;>
  simp[c1,c2,c3,c4,WH] <;> rw[hloop] <;> first | (simp[hdT,c1,c2,c3,c4,Tl,Sv];done) | (simp[hdT,c1,c2,c3,c4,PR,Tl,Sv];omega) | skip
def Ag (t:Tm) (bs:Qa) (hm:t.mass < big) (ih: ∀x∈t.kids,∀bs,call tb 60 [.agg (Qf x)] bs=some (.int .i64 x.nodes,bs)):
  ∀(post pre:Qe) (ρ:Ql),t.kids=pre ++ post->ρ 1= .bx (Qf t)->ρ 4= .int .i64 pre.length->ρ 3= .int .i64 (1+QB pre:Nat)->
  R tb (.loop f60l0) ρ bs (Qq 0 (QH tb f60r0 (QP f60 bs)))=some (.int .i64 t.nodes,bs):=by
 have hm2:=QF t;have hn:=YP t.kids;unfold big at hm;intro post
 induction post with
 | nil=>
  intro pre ρ hk h1 h4 h3;rw[Qg f60l0.eq_1];simp at hk;simp[h1,h3,h4,<- hk,f60r0,Wg]
 | cons x post IH=>
  intro pre ρ hk h1 h4 h3;have hg:=Qx hk;have hl:=QL hk;have hnn:QB t.kids=QB pre+ (x.nodes+QB post):=by rw[hk,XO];simp[QB]
  have hw1:=wr1 pre.length (by omega);have hw2:IntKind.i64.wrap (1+ (QB pre:Int)+ (x.nodes:Int))=1+ (QB pre:Int)+ (x.nodes:Int):=Zb (by omega) (by omega);have hlt:=QO hk;rw[Qg f60l0.eq_1];simp[h3,h1,h4,hg,hw1,hw2,hlt,ih x (by rw[hk];simp)];rw[IH (pre ++ [x])] <;> simp[h3,h1,h4,hk,XO,QB];omega
def Na: ∀(t:Tm) (bs:Qa),t.mass < big->call tb 60 [.agg (Qf t)] bs=some (.int .i64 t.nodes,bs):=by
 refine Yn ?_;intro k n s ks ih bs hm;rw[zcc 60 rfl rfl];simp[f60C];refine Ag (.mk k n s ks) bs hm (fun x hx bs=>ih x hx bs ?_) ks [] _ ?_ ?_ ?_ ?_ <;> (try simp[QB]);have:=Q4 hx;have:=QF (.mk k n s ks);simp at *;omega
def Ht (a b:Qe):Y9 (a ++ b)=max (Y9 a) (Y9 b):=by
 induction a with
 | nil=>simp[Y9]
 | cons t ts ih=>simp[Y9,ih]
def DW (t:Tm) (bs:Qa) (hm:t.mass < big) (ih: ∀x∈t.kids,∀bs,call tb 61 [.agg (Qf x)] bs=some (.int .i64 x.depth,bs)):
  ∀(post pre:Qe) (ρ:Ql),t.kids=pre ++ post->ρ 1= .bx (Qf t)->ρ 4= .int .i64 pre.length->ρ 3= .int .i64 (Y9 pre:Nat)->
  R tb (.loop f61l0) ρ bs (Qq 0 (QH tb f61r0 (QP f61 bs)))=some (.int .i64 t.depth,bs):=by
 have hm2:=QF t;have hn:=UJ t.kids;have hn2:=YP t.kids;unfold big at hm;intro post
 induction post with
 | nil=>
  intro pre ρ hk h1 h4 h3;rw[Qg f61l0.eq_1];simp at hk;have hw2:IntKind.i64.wrap ((Y9 pre:Int)+1)=(Y9 pre:Int)+1:=Zb (by omega) (by rw[<- hk];omega);simp[h1,h3,h4,hk,hw2,f61r0,Nl]
 | cons x post IH=>
  intro pre ρ hk h1 h4 h3;have hg:=Qx hk;have hl:=QL hk;have hw1:=wr1 pre.length (by omega);have hlt:=QO hk;rw[Qg f61l0.eq_1];simp[h3,h1,h4,hg,hw1,hlt,ih x (by rw[hk];simp)];rw[IH (pre ++ [x])] <;> simp[h3,h1,h4,hk,Ht,Y9];split <;> omega
def D8: ∀(t:Tm) (bs:Qa),t.mass < big->call tb 61 [.agg (Qf t)] bs=some (.int .i64 t.depth,bs):=by
 refine Yn ?_;intro k n s ks ih bs hm;rw[zcc 61 rfl rfl];simp[f61C];refine DW (.mk k n s ks) bs hm (fun x hx bs=>ih x hx bs ?_) ks [] _ ?_ ?_ ?_ ?_ <;> (try simp[Y9]);have:=Q4 hx;have:=QF (.mk k n s ks);simp at *;omega
def Eb (a b:Int) (bs:Qa):call tb 91 [.int .i64 a,.int .i64 b] bs=some (.int .i64 (sgn a b),bs):=by
 rw[zcc 91 rfl rfl];simp[f91,f91C,sgn]
def Hk (t u:Tm) (bs:Qa) (hm:t.mass < big) (hu:u.mass < big)
  (ih: ∀x∈t.kids,∀y bs,y.mass < big->call tb 90 [.agg (Qf x),.agg (Qf y)] bs=some (.int .i64 (Qp x y),bs)):
  ∀(xs ys pre pre':Qe) (ρ:Ql),t.kids=pre ++ xs->u.kids=pre' ++ ys->pre.length=pre'.length->xs.length=ys.length->
   ρ 2= .bx (Qf t)->ρ 3= .bx (Qf u)->ρ 9= .int .i64 pre.length->
  R tb (.loop f90l0) ρ bs (Qq 0 (QH tb f90r0 (QP f90 bs)))=some (.int .i64 (Xs xs ys),bs):=by
 have hm2:=QF t;have hu2:=QF u;intro xs
 induction xs with
 | nil=>
  intro ys pre pre' ρ hk hk' hp hc h2 h3 h9;rw[Qg f90l0.eq_1];simp at hk;simp[h2,h3,h9,f90r0,hk,Xs]
 | cons x xs IH=>
  intro ys pre pre' ρ hk hk' hp hc h2 h3 h9;rw[Qg f90l0.eq_1];obtain⟨y,ys',rfl⟩: ∃y ys',ys=y:: ys':=by
   cases ys with
   | nil=>simp at hc
   | cons y ys'=>exact⟨y,ys',rfl⟩
  have hg:=Qx hk;have hg':=Qx hk';rw[<- hp]at hg';have hl:t.kids.length=pre.length+ (xs.length+1):=by rw[hk];simp
  have hlt: (pre.length:Int) < (t.kids.length:Int):=by omega
  have hym:y.mass < big:=by have:=Q4 (x:=y) (ks:=u.kids) (by rw[hk'];simp);omega
  unfold big at hm hu;have hw1:=wr1 pre.length (by omega);by_cases h0:Qp x y=0
  ·simp[h2,h3,h9,h0,hlt,hg,hg',hw1,ih x (by rw[hk];simp) y bs hym];rw[IH ys' (pre ++ [x]) (pre' ++ [y])] <;> first | omega | (simp[hk,hk',hp,h0,h2,h3,Xs,Tl];done) | (simp at hc;omega)
  ·simp[h2,h3,h9,h0,hlt,hg,hg',hw1,ih x (by rw[hk];simp) y bs hym,Xs,Sv]
def Uv: ∀(t u:Tm) (bs:Qa),t.mass < big->u.mass < big->call tb 90 [.agg (Qf t),.agg (Qf u)] bs=some (.int .i64 (Qp t u),bs):=by
 refine Yn ?_;intro k n s ks ih u bs hm hu;have hloop:=Hk (.mk k n s ks) u bs hm hu (fun x hx y bs hy=>ih x hx y bs (by have:=Q4 hx;have:=QF (.mk k n s ks);simp at *;omega) hy) ks u.kids [] [];rw[zcc 90 rfl rfl,SQ];have hsz:=Na (.mk k n s ks) bs hm;have hsz':=Na u bs hu;simp[f90C,hsz,hsz',Eb];have b0:Wy n u.name=if Op.bytesLess n u.name then -1 else if(Op.bytesLess n u.name || n == u.name)=false then 1 else 0:=by
  unfold Wy;cases Op.bytesLess n u.name <;> cases hh: (n == u.name) <;> simp
 generalize (n == u.name)=q at *;generalize Op.bytesLess n u.name=p at *;by_cases c1:sgn (Tm.mk k n s ks).nodes u.nodes=0 <;> by_cases c2:sgn k u.kind=0 <;> cases p <;> cases q <;> by_cases c4:sgn s u.sort=0 <;>
  by_cases c6:sgn ks.length u.kids.length=0 <;> simp[c1,c2,c4,c6,WH,hdT,Tl,Sv,b0]
 all_goals (rw[hloop] <;> (try simp) <;> (try (have:=PR.1 c6;omega)))
def Y3 (t u:Tm) (bs:Qa) (hm:t.mass < big) (hu:u.mass < big):call tb 89 [.agg (Qf t),.agg (Qf u)] bs=some (.bool (decide (Qp t u=0)),bs):=by
 rw[zcc 89 rfl rfl];simp[f89,f89C,Uv t u bs hm hu]
end Go.Am
namespace Go.Am
set_option maxRecDepth 20000
mutual
def Sl:Tm->Int->Int
 | .mk _ n _ ks,m=>if m<=0\/40 < n.length then -1 else Tq ks (m - 1)
def Tq:List Tm->Int->Int
 | [],m=>m
 | t:: ts,m=>if Sl t m < 0 then -1 else Tq ts (Sl t m)
end
mutual
theorem J3: ∀(t:Tm) (m:Int),Sl t m= -1\/0<=Sl t m/\Sl t m+t.nodes<=m/\t.mass+1<=42*t.nodes
 | .mk k n s ks,m=>by
  simp only[Sl,Tm.nodes,Tm.mass];split
  ·exact .inl rfl
  ·rename_i h;rcases J0 ks (m - 1) (by omega)with h1 | h1
   ·exact .inl h1
   ·right;omega
theorem J0: ∀(ts:List Tm) (m:Int),0<=m->Tq ts m= -1\/0<=Tq ts m/\Tq ts m+QB ts<=m/\Qt ts+ts.length<=42*QB ts
 | [],m,h=>by simp[Tq,QB,Qt];omega
 | t:: ts,m,h=>by
  simp only[Tq,QB,Qt,ZL];split
  ·exact .inl rfl
  ·rename_i h0;rcases J3 t m with h1 | h1
   ·omega
   ·rcases J0 ts (Sl t m) (by omega)with h2 | h2
    ·exact .inl h2
    ·right;omega
end
def QeD (t:Tm) (bs:Qa) (m0:Int) (hm:m0 < 1000000) (ih: ∀x∈t.kids,∀(m:Int) bs,m < 1000000->call tb 102 [.agg (Qf x),.int .i64 m] bs=some (.int .i64 (Sl x m),bs)):
  ∀(post pre:Qe) (m:Int) (ρ:Ql),t.kids=pre ++ post->0<=m->m+pre.length<=m0->ρ 2= .bx (Qf t)->ρ 5= .int .i64 pre.length->ρ 1= .int .i64 m->
  R tb (.loop f102l0) ρ bs (Qq 0 (QH tb f102r0 (QP f102 bs)))=some (.int .i64 (Tq post m),bs):=by
 intro post
 induction post with
 | nil=>
  intro pre m ρ hk h0 hp h2 h5 h1;rw[Qg f102l0.eq_1];simp at hk;simp[h1,h2,h5,hk,f102r0,Tq]
 | cons x post IH=>
  intro pre m ρ hk h0 hp h2 h5 h1;have hg:=Qx hk;have hl:=QL hk;have hw1:=wr1 pre.length (by omega);have hlt:=QO hk;have hn:=Wg x;rw[Qg f102l0.eq_1];rcases J3 x m with hb | hb
  ·simp[h1,h2,h5,hg,hw1,hlt,ih x (by rw[hk];simp) m bs (by omega),hb,Tq]
  ·have hb0: ¬Sl x m < 0:=by omega
   simp[h1,h2,h5,hg,hw1,hlt,ih x (by rw[hk];simp) m bs (by omega),hb0,Tq];rw[IH (pre ++ [x]) (Sl x m)] <;> first | omega | (simp[h1,h2,h5,hk];done) | (simp;omega)
def Ei: ∀(t:Tm) (m:Int) (bs:Qa),m < 1000000->call tb 102 [.agg (Qf t),.int .i64 m] bs=some (.int .i64 (Sl t m),bs):=by
 refine Yn ?_;intro k n s ks ih m bs hm;rw[zcc 102 rfl rfl];have hn: (40 < (n.length:Int))=(40 < n.length):=by rw[WL];omega
 simp[f102C,WH,hn,Sl];split
 ·rfl
 ·rename_i hc;have hw:IntKind.i64.wrap (m - 1)=m - 1:=Zb (by omega) (by omega);refine QeD (.mk k n s ks) bs m hm (fun x hx=>ih x hx) ks [] (m - 1) _ ?_ ?_ ?_ ?_ ?_ ?_ <;> first | (simp[hw];done) | (simp;omega)
def few (l:Qe) (n:Nat) (m:Int):Bool:=decide (l.length<=n) && decide (0<=Tq l m)
def Qfc (l:Qe) (o:Bool) (bs:Qa) (hl:l.length < 1000000):
  ∀(post pre:Qe) (m:Int) (ρ:Ql),l=pre ++ post->0<=m->m < 1000000->ρ 0= .sl o 4 (Qb l)->ρ 7= .int .i64 pre.length->ρ 2= .int .i64 m->
  R tb (.loop f101l0) ρ bs (Qq 0 (QH tb f101r0 (QP f101 bs)))=some (.bool (decide (0<=Tq post m)),bs):=by
 intro post
 induction post with
 | nil=>
  intro pre m ρ hk h0 hm hr0 h7 h2;rw[Qg f101l0.eq_1];simp at hk;simp[hr0,h7,h2,hk,f101r0,Tq,h0]
 | cons x post IH=>
  intro pre m ρ hk h0 hm hr0 h7 h2;have hg:=Qx hk;have hl:=QL hk;have hw1:=wr1 pre.length (by omega);have hlt:=QO hk;rw[Qg f101l0.eq_1];rcases J3 x m with hb | hb
  ·simp[hr0,h7,h2,hg,hw1,hlt,Ei x m bs (by omega),hb,Tq]
  ·have hb0: ¬Sl x m < 0:=by omega
   simp[hr0,h7,h2,hg,hw1,hlt,Ei x m bs (by omega),hb0,Tq];rw[IH (pre ++ [x]) (Sl x m)] <;> first | omega | (simp[hr0,h7,h2,hk];done)
def Ej (l:Qe) (o:Bool) (n:Nat) (m:Int) (bs:Qa) (hn:n < 1000000) (h0:0<=m) (hm:m < 1000000):
  call tb 101 [.sl o 4 (Qb l),.int .i64 n,.int .i64 m] bs=some (.bool (few l n m),bs):=by
 rw[zcc 101 rfl rfl];have e1: ((n:Int) < (l.length:Int))=(n < l.length):=by rw[WL];omega
 simp[f101C,WH,few];split
 ·have: ¬l.length<=n:=by omega
  simp[this]
 ·have:l.length<=n:=by omega
  rw[Qfc l false bs (by omega) l [] m] <;> simp[this,h0,hm]
end Go.Am
namespace Go.Am
set_option maxRecDepth 20000
def TZ (c:UInt8):Bool:=(97<=c.toNat && c.toNat<=122) || (65<=c.toNat && c.toNat<=90)
def PA (c:UInt8):Bool:=48<=c.toNat && c.toNat<=57
def TN (c:UInt8):Sw c=(TZ c || PA c || c.toNat == 95 || c.toNat == 35):=rfl
def Tf (m n:Nat): ((m:Int)<=(n:Int))=(m<=n):=by rw[WL];omega
def Ol (c:UInt8) (bs:Qa):call tb 58 [.int .u8 c.toNat] bs=some (.bool (TZ c),bs):=by
 rw[zcc 58 rfl rfl];have e1: ((97:Int)<=(c.toNat:Int))=(97<=c.toNat):=Tf 97 _;have e2: ((c.toNat:Int)<=122)=(c.toNat<=122):=Tf _ 122;have e3: ((65:Int)<=(c.toNat:Int))=(65<=c.toNat):=Tf 65 _;have e4: ((c.toNat:Int)<=90)=(c.toNat<=90):=Tf _ 90;simp[f58,f58C,TZ,e1,e2,e3,e4]
def Jb (c:UInt8) (bs:Qa):call tb 59 [.int .u8 c.toNat] bs=some (.bool (PA c),bs):=by
 rw[zcc 59 rfl rfl];have e1: ((48:Int)<=(c.toNat:Int))=(48<=c.toNat):=Tf 48 _;have e2: ((c.toNat:Int)<=57)=(c.toNat<=57):=Tf _ 57;simp[f59,f59C,PA,e1,e2]
def IE (n:Nat): ((n:Int)=95)=(n=95):=by rw[WL];omega
def ID (n:Nat): ((n:Int)=35)=(n=35):=by rw[WL];omega
def Ph:=@Bool.or_eq_false_iff
def Fx (s:Qu) (bs:Qa) (hs:s.length < 4611686018427387904): ∀(post pre:Qu) (ρ:Ql),s=pre ++ post->ρ 0= .str s->ρ 3= .int .i64 pre.length->
  R tb (.loop f57l0) ρ bs (Qq 0 (QH tb f57r0 (QP f57 bs)))=some (.bool (post.all Sw),bs):=by
 intro post
 induction post with
 | nil=>
  intro pre ρ hk h0 h3;rw[Qg f57l0.eq_1];simp at hk;simp[h0,h3,hk,f57r0]
 | cons x post IH=>
  intro pre ρ hk h0 h3;have hg:=Qx hk;have hl:=QL hk;have hw1:=wr1 pre.length (by omega);have hlt:=QO hk;rw[Qg f57l0.eq_1];cases hp:Sw x
  ·rw[TN]at hp;simp only[Ph]at hp;obtain⟨⟨⟨p1,p2⟩,p3⟩,p4⟩:=hp;have p3': ¬x.toNat=95:=by simpa using p3
   have p4': ¬x.toNat=35:=by simpa using p4
   simp[h0,h3,hg,hw1,hlt,Ol,Jb,p1,p2,p3',p4',IE,ID,TN]
  ·simp[h0,h3,hg,hw1,hlt,Ol,Jb,IE,ID,TN,WH];split
   ·rename_i hc;simp[TN,hc]at hp
   ·rw[IH (pre ++ [x])]
    ·simp[TN]at hp;simp[hp]
    ·simp[hk]
    ·simp[h0]
    ·simp
def FE:=@Bool.and_eq_false_iff
def Qab {c:UInt8} (h:TZ c=true):PA c=false/\(c.toNat == 95)=false/\(c.toNat == 35)=false:=by
 simp only[TZ,Vu,Qo,Qv]at h;refine⟨?_,?_,?_⟩
 ·simp only[PA,FE,U9];omega
 ·simp;omega
 ·simp;omega
def Cq (c:UInt8) (r:Qu):WY (c:: r)=(decide (r.length < 24) && TZ c && (c:: r).all Sw):=by
 have hd: (decide (48<=c.toNat) && decide (c.toNat<=57))=PA c:=rfl;simp only[WY,Sh,hd,bne];cases hl:TZ c
 ·rw[TN,hl];cases PA c <;> cases (c.toNat == 95) <;> cases (c.toNat == 35) <;> simp
 ·obtain⟨h1,h2,h3⟩:=Qab hl;rw[TN,hl,h1,h2,h3];simp
def Ea (s:Qu) (bs:Qa) (hs:s.length < 4611686018427387904):call tb 57 [.str s] bs=some (.bool (WY s),bs):=by
 rw[zcc 57 rfl rfl];cases s with
 | nil=>simp[f57C,WY]
 | cons c r=>
  have e1: (24 < (r.length:Int)+1)=¬(r.length < 24):=by rw[WL];omega
  have e2: ((r.length:Int)+1=0)=False:=eq_false (by omega);rw[Cq];by_cases h1:r.length < 24 <;> cases h2:TZ c <;>
  simp[f57C,Ol,e1,e2,h1,h2,-List.all_cons];rw[Fx (c:: r) bs hs (c:: r) []] <;> (try simp)
end Go.Am
namespace Go.Am
set_option maxRecDepth 20000
def Ww: ∀a:Qu,Op.bytesLess a a=false
 | []=>rfl
 | c:: r=>by simp[Op.bytesLess,Ww r]
def II (a:Qu):Wy a a=0:=by simp[Wy,Ww]
def Qf6 (a:Int):sgn a a=0:=PR.2 rfl
def Qfh (t:Tm):hdT t t=0:=by simp[hdT,Qf6,II,or0]
mutual
theorem Vg: ∀t:Tm,Qp t t=0
 | .mk k n s ks=>by rw[Qp,Qfh,Tl];exact IG ks
theorem IG: ∀ts:List Tm,Xs ts ts=0
 | []=>by simp[Xs]
 | t:: ts=>by rw[Xs,Vg t,Tl];exact IG ts
end
def Kc {l:Qe} {n:Nat} {m:Int} (h0:0<=m) (h:few l n m=true):l.length<=n/\Qt l+l.length<=42*m.toNat/\QB l<=m.toNat:=by
 simp only[few,Qo,Qv]at h;rcases J0 l m h0 with h1 | h1
 ·omega
 ·omega
end Go.Am
namespace Go.Am
set_option maxRecDepth 20000
def AF (t:Tm) (bs:Qa) (hm:t.mass < big) (ih: ∀x∈t.kids,∀bs,call tb 48 [.agg (Qf x)] bs=some (.agg (Qf x),bs)):
  ∀(post pre:Qe) (ρ:Ql),t.kids=pre ++ post->ρ 1= .bx [.int .i64 t.kind,.str t.name,.int .i64 t.sort,.sl true 4 (Qb pre)]->ρ 2= .bx [.int .i64 0,.str [],.int .i64 0,.sl true 4 []]->
   ρ 9= .sl false 4 (Qb t.kids)->ρ 10= .int .i64 t.kids.length->ρ 11= .int .i64 pre.length->
  R tb (.loop f48l0) ρ bs (Qq 0 (QH tb f48r0 (QP f48 bs)))=some (.agg (Qf t),bs):=by
 have hm2:=QF t;unfold big at hm;intro post
 induction post with
 | nil=>
  intro pre ρ hk h1 h2 h9 h10 h11;rw[Qg f48l0.eq_1];simp at hk;rw[<- hk]at h1 h11;simp[h1,h2,h9,h10,h11,f48r0,UV,Tm.eta]
 | cons x post IH=>
  intro pre ρ hk h1 h2 h9 h10 h11;have hg:=Qx hk;have hl:=QL hk;have hw1:=wr1 pre.length (by omega);have hlt:=QO hk;have ha: (pre.length+1)*56<=140737488355328:=by omega
  rw[Qg f48l0.eq_1];simp[h1,h2,h9,h10,h11,hg,hw1,hlt,ha,ih x (by rw[hk];simp),ZV,ZB];rw[IH (pre ++ [x])] <;> simp[h2,h9,h10,hk]
def Nb: ∀(t:Tm) (bs:Qa),t.mass < big->call tb 48 [.agg (Qf t)] bs=some (.agg (Qf t),bs):=by
 refine Yn ?_;intro k n s ks ih bs hm;rw[zcc 48 rfl rfl];simp[f48C,Qf];refine AF (.mk k n s ks) bs hm (fun x hx bs=>ih x hx bs ?_) ks [] _ ?_ ?_ ?_ ?_ ?_ ?_ <;> (try simp[Qb]);have:=Q4 hx;have:=QF (.mk k n s ks);simp at *;omega
def Eh (n:Qu) (ks:Qe) (o:Bool) (bs:Qa):call tb 49 [.str n,.sl o 4 (Qb ks)] bs=some (.agg (Qf (.mk 3 n 0 ks)),bs):=by
 rw[zcc 49 rfl rfl];simp[f49,f49C,UV]
structure Sy where
 n:List UInt8
 l:Int
 m:Int
 k:Int
def VC (s:Sy):Qh:=[.str s.n,.int .i64 s.l,.int .i64 s.m,.int .i64 s.k]
def X7:List Sy:=[⟨[112,97,105,114],2,2,1⟩,⟨[101,110,99],2,2,1⟩,⟨[97,101,110,99],2,2,1⟩,⟨[112,107],1,1,1⟩,⟨[115,105,103,110],2,2,1⟩,⟨[104,97,115,104],1,1,1⟩,
 ⟨[120,111,114],2,8,1⟩,⟨[122,101,114,111],0,0,1⟩,⟨[101,120,112],2,2,1⟩,⟨[109,117,108],2,8,1⟩,⟨[105,110,118],1,1,1⟩,⟨[111,110,101],0,0,1⟩,
 ⟨[115,107],1,1,2⟩,⟨[115,104,107],2,2,2⟩,⟨[110,101,119],1,8,2⟩,⟨[102,115,116],1,1,3⟩,⟨[115,110,100],1,1,3⟩,⟨[100,101,99],2,2,3⟩,⟨[97,100,101,99],2,2,3⟩,⟨[111,112,101,110],2,2,3⟩,⟨[114,101,97,100],1,1,3⟩]
def Va (ys:List Sy):Qa:=ys.map VC
@[simp] def Hv (ys:List Sy):Zw (Va ys)=true:=by
 induction ys with
 | nil=>rfl
 | cons y ys ih=>simpa[Va,VC,Zw,QY,AV.gpfree]using ih
@[simp] def Qpp (ys:List Sy): (Va ys).length=ys.length:=by simp[Va]
def Ef (k l m:Int) (n:Qu) (ys:List Sy) (bs:Qa) (hx:ys.length < 1000):
  call tb 45 [.int .i64 k,.str n,.int .i64 l,.int .i64 m,.gp bs.length 0] (bs ++ [[.sl true 4 (Va ys)]])=some (.tup [],bs ++ [[.sl true 4 (Va (ys ++ [⟨n,l,m,k⟩]))]]):=by
 rw[zcc 45 rfl rfl];have ha: (ys.length+1)*40<=140737488355328:=by omega
 have h1:Va (ys ++ [⟨n,l,m,k⟩])=Va ys ++ [[.str n,.int .i64 l,.int .i64 m,.int .i64 k]]:=by simp[Va,VC]
 have h2:Zw (Va ys ++ [[.str n,.int .i64 l,.int .i64 m,.int .i64 k]])=true:=by rw[<- h1];exact Hv _
 simp[f45,f45C,ha,h1,h2,Yy,QY]
def QcL (k l m:Int) (n:Qu) (bs:Qa):
  call tb 45 [.int .i64 k,.str n,.int .i64 l,.int .i64 m,.gp bs.length 0] (bs ++ [[.sl true 4 []]])=some (.tup [],bs ++ [[.sl true 4 (Va [⟨n,l,m,k⟩])]]):=Ef k l m n [] bs (by simp)
def Ee (bs:Qa):call tb 44 [] bs=some (.sl false 4 (Va X7),bs):=by
 rw[zcc 44 rfl rfl];simp only[f44,f44C];simp[QcL,Ef,X7]
def Yd (n:Qu):List Sy->Option Sy
 | []=>none
 | s:: ss=>if s.n=n then some s else Yd n ss
def MQ {l:List Sy} {pre post:List Sy} {s:Sy} (h:l=pre ++ s:: post): (Va l)[pre.length]? =some (VC s):=by
 subst h;simp[Va]
def CJ (n:Qu) (l:List Sy) (bs:Qa) (hn:l.length < 1000):
  ∀(post pre:List Sy) (ρ:Ql),l=pre ++ post->ρ 0= .str n->ρ 2= .bx [.str [],.int .i64 0,.int .i64 0,.int .i64 0]->
   ρ 5= .sl false 4 (Va l)->ρ 6= .int .i64 l.length->ρ 7= .int .i64 pre.length->
  R tb (.loop f43l0) ρ bs (Qq 0 (QH tb f43r0 (QP f43 bs)))=
   some (.agg (match Yd n post with | some s=>VC s | none=>[.str [],.int .i64 0,.int .i64 0,.int .i64 0]),bs):=by
 intro post
 induction post with
 | nil=>
  intro pre ρ hk h0 h2 h5 h6 h7;rw[Qg f43l0.eq_1];simp at hk;rw[<- hk]at h7;simp[h0,h2,h5,h6,h7,f43r0,Yd]
 | cons x post IH=>
  intro pre ρ hk h0 h2 h5 h6 h7;have hg:=MQ hk;have hl:=QL hk;have hw1:=wr1 pre.length (by omega);have hlt:=QO hk;rw[Qg f43l0.eq_1];by_cases hx:x.n=n
  ·simp[h0,h2,h5,h6,h7,hg,hw1,hlt,VC,hx,Yd]
  ·have hxb: (x.n == n)=false:=by simp[hx]
   simp[h0,h2,h5,h6,h7,hg,hw1,hlt,VC,hx,hxb,Yd];rw[IH (pre ++ [x])] <;> simp[h0,h2,h5,h6,hk,VC]
def WE (n:Qu) (bs:Qa):call tb 43 [.str n] bs=some (.agg (match Yd n X7 with | some s=>VC s | none=>[.str [],.int .i64 0,.int .i64 0,.int .i64 0]),bs):=by
 rw[zcc 43 rfl rfl];simp[f43C,Ee];refine CJ n X7 bs (by simp[X7]) X7 [] _ rfl ?_ ?_ ?_ ?_ ?_ <;> simp
end Go.Am
namespace Go.Am
set_option maxRecDepth 20000
def Th (k:Tm):Bool:=k.kind == 3 || k.sort != 1
mutual
def XQ:Tm->Int
 | .mk k n _ ks=>if k≠3 then 0 else match Yd n X7 with
  | none=>10
  | some y=>if(ks.length:Int) < y.l\/y.m < ks.length then 6 else if(n=[115,107]\/n=[115,104,107])/\ks.any Th then 10
   else if n=[110,101,119]/\ks.head?.map Tm.kind≠some 2 then 10 else Sm ks
def Sm:List Tm->Int
 | []=>0
 | t:: ts=>if XQ t≠0 then XQ t else Sm ts
end
def QeO (t:Tm) (bs:Qa) (hm:t.mass < big) (ih: ∀x∈t.kids,∀bs,call tb 42 [.agg (Qf x)] bs=some (.int .i64 (XQ x),bs)):
  ∀(post pre:Qe) (ρ:Ql),t.kids=pre ++ post->ρ 62= .sl false 4 (Qb t.kids)->ρ 63= .int .i64 t.kids.length->ρ 64= .int .i64 pre.length->
  R tb (.loop f42l1) ρ bs (Qq 3 (QH tb f42r0 (QP f42 bs)))=some (.int .i64 (Sm post),bs):=by
 have hm2:=QF t;unfold big at hm;intro post
 induction post with
 | nil=>
  intro pre ρ hk h1 h2 h3;rw[Qg f42l1.eq_1];simp at hk;rw[<- hk]at h3;simp[h1,h2,h3,f42r0,Sm]
 | cons x post IH=>
  intro pre ρ hk h1 h2 h3;have hg:=Qx hk;have hl:=QL hk;have hw1:=wr1 pre.length (by omega);have hlt:=QO hk;rw[Qg f42l1.eq_1];by_cases hc:XQ x=0
  ·simp[h1,h2,h3,hg,hw1,hlt,ih x (by rw[hk];simp),hc,Sm];rw[IH (pre ++ [x])] <;> simp[h1,h2,hk]
  ·simp[h1,h2,h3,hg,hw1,hlt,ih x (by rw[hk];simp),hc,Sm]
def Ep (t:Tm) (bs:Qa) (hm:t.mass < big) (ih: ∀x∈t.kids,∀bs,call tb 42 [.agg (Qf x)] bs=some (.int .i64 (XQ x),bs)) (ρ:Ql) (h1:ρ 1= .bx (Qf t)):
  R tb f42r1 ρ bs (QP f42 bs)=some (.int .i64 (Sm t.kids),bs):=by
 simp[f42r1,h1,Zr];refine QeO t bs hm ih t.kids [] _ rfl ?_ ?_ ?_ <;> simp
def QeN (t:Tm) (bs:Qa) (hm:t.mass < big) (ih: ∀x∈t.kids,∀bs,call tb 42 [.agg (Qf x)] bs=some (.int .i64 (XQ x),bs)):
  ∀(post pre:Qe) (ρ:Ql),t.kids=pre ++ post->ρ 1= .bx (Qf t)->ρ 38= .sl false 4 (Qb t.kids)->ρ 39= .int .i64 t.kids.length->ρ 40= .int .i64 pre.length->
  R tb (.loop f42l0) ρ bs (Qq 1 (Qq 0 (QH tb f42r1 (QP f42 bs))))=some (.int .i64 (if post.any Th then 10 else Sm t.kids),bs):=by
 have hm2:=QF t;have hm0:=hm;unfold big at hm;intro post
 induction post with
 | nil=>
  intro pre ρ hk h0 h1 h2 h3;rw[Qg f42l0.eq_1];simp at hk;rw[<- hk]at h3;simp[h0,h1,h2,h3];rw[Ep t bs hm0 ih] <;> simp[h0]
 | cons x post IH=>
  intro pre ρ hk h0 h1 h2 h3;have hg:=Qx hk;have hl:=QL hk;have hw1:=wr1 pre.length (by omega);have hlt:=QO hk;rw[Qg f42l0.eq_1];by_cases h3':x.kind=3
  ·simp[h0,h1,h2,h3,hg,hw1,hlt,Zr,h3',Th]
  ·by_cases h4:x.sort=1
   ·have hb:Th x=false:=by simp[Th,h3',h4]
    have hb3: (x.kind == 3)=false:=by simp[h3']
    simp[h0,h1,h2,h3,hg,hw1,hlt,Zr x,h3',h4,hb,hb3];rw[IH (pre ++ [x])] <;> simp[h0,h1,h2,hk,hb]
   ·have hb:Th x=true:=by simp[Th,h4]
    have hb3: (x.kind == 3)=false:=by simp[h3']
    have hb4: (x.sort != 1)=true:=by simp[h4]
    simp[h0,h1,h2,h3,hg,hw1,hlt,Zr x,h3',h4,hb,hb3,hb4]
def Ns {n:Qu} {y:Sy}: ∀{l:List Sy},Yd n l=some y->y∈l/\y.n=n
 | [],h=>by simp[Yd]at h
 | s:: ss,h=>by
  simp only[Yd]at h;split at h
  ·rename_i e;injection h with h;subst h;exact⟨by simp,e⟩
  ·have:=Ns h;exact⟨Pg _ this.1,this.2⟩
def Qd8 {y:Sy} (h:y∈X7):y.k≠0/\(y.n=[110,101,119]->y.l=1):=by
 have:X7.all (fun y=>y.k≠0/\(y.n=[110,101,119]->y.l=1))=true:=by decide
 have:=XK.1 this y h;simpa only[Qv]using this
def Em: ∀(t:Tm) (bs:Qa),t.mass < big->call tb 42 [.agg (Qf t)] bs=some (.int .i64 (XQ t),bs):=by
 refine Yn ?_;intro k n s ks ih bs hm;have hmk:=QF (.mk k n s ks);have ih': ∀x∈(Tm.mk k n s ks).kids,∀bs,call tb 42 [.agg (Qf x)] bs=some (.int .i64 (XQ x),bs):=fun x hx bs=>ih x hx bs (by
  have:=Q4 hx;simp at *;omega)
 have r1:=fun ρ h=>Ep (.mk k n s ks) bs hm ih' ρ h;have l0:=fun ρ h0 h1 h2 h3=>QeN (.mk k n s ks) bs hm ih' ks [] ρ rfl h0 h1 h2 h3;simp only[Qf,Zx,Yz]at r1 l0;rw[zcc 42 rfl rfl];by_cases hk:k=3
 ·subst hk;cases hy:Yd n X7 with
  | none=>simp[f42C,Qf,WE,hy,XQ]
  | some y=>
   obtain⟨hy1,hy2⟩:=Ns hy;obtain⟨hy3,hy4⟩:=Qd8 hy1;by_cases ha: (ks.length:Int) < y.l
   ·simp[f42C,Qf,WE,hy,hy3,ha,VC,XQ]
   ·by_cases hb:y.m < (ks.length:Int)
    ·simp[f42C,Qf,WE,hy,hy3,ha,hb,VC,XQ]
    ·by_cases h1:n=[115,107]
     ·subst h1;simp[f42C,Qf,WE,hy,hy3,ha,hb,VC,XQ];rw[l0] <;> simp
     ·by_cases h2:n=[115,104,107]
      ·subst h2;simp[f42C,Qf,WE,hy,hy3,ha,hb,VC,XQ];rw[l0] <;> simp
      ·have b1: (n == [115,107])=false:=by simp[h1]
       have b2: (n == [115,104,107])=false:=by simp[h2]
       by_cases h3:n=[110,101,119]
       ·subst h3;have hl:=hy4 hy2;cases ks with
        | nil=>simp at ha;omega
        | cons x xs=>
         have ha': ¬((xs.length:Int)+1 < y.l):=by simpa using ha
         have hb': ¬(y.m < (xs.length:Int)+1):=by simpa using hb
         by_cases hx:x.kind=2
         ·simp[f42C,Qf,Qb,Zr x,WE,hy,hy3,ha',hb',VC,XQ,hx]at *;refine(r1 _ ?_).trans ?_ <;> simp[Qb,Zr x]
         ·simp[f42C,Qf,Qb,Zr x,WE,hy,hy3,ha',hb',VC,XQ,hx]
       ·have b3: (n == [110,101,119])=false:=by simp[h3]
        simp[f42C,Qf,WE,hy,hy3,ha,hb,VC,XQ,h1,h2,h3,b1,b2,b3];rw[r1] <;> simp
 ·simp[f42C,Qf,hk,XQ]
def thV (t:Tm):Int:=if Zg t≠0 then Zg t else XQ t
def MG (t:Tm) (bs:Qa) (hm:t.mass < big):call tb 41 [.agg (Qf t)] bs=some (.int .i64 (thV t),bs):=by
 rw[zcc 41 rfl rfl];have h1:=Ui t bs hm;have h2:=Em t bs hm;rw[Zr]at *;by_cases h:Zg t=0
 ·simp[f41C,h1,h2,h,thV]
 ·simp[f41C,h1,h,thV]
end Go.Am
