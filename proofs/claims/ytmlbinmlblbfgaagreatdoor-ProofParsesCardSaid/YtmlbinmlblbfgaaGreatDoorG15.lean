/-
  Am21, Am22, Am23, Ge1, Ge2, Ge3, Ge4, Ge5, Ge6, Ge10, Ge11, Ge12, Ge26, Ge27, Ge28, Ge15.
-/
import Derived.Test.YtmlbinmlblbfgaaGreatDoorG10
import Derived.Test.YtmlbinmlblbfgaaGreatDoorG14
set_option linter.all false
open Go.Am.F
namespace Go.Am
abbrev Out:=Option (AV×List (List AV))
abbrev Kn:=Ex->St->Out
section
variable {T:Nat->Option AFn}
noncomputable def R (T:Xx) (c:AC) (ρ:Qq) (bs:Qd) (k:Kn):Out:=match run T c ⟨ρ,bs⟩with
 | some (e,s)=>k e s
 | none=>none
noncomputable def O (T:Xx) (os:ZH) (ρ:Qq) (bs:Qd) (k:Kn):Out:=match Zz (call T) os ⟨ρ,bs⟩with
 | some s=>k .normal s
 | none=>none
noncomputable def E (T:Xx) (r:Option (AV×St)) (d:ZU) (os:ZH) (k:Kn):Out:=match r with
 | some p=>O T os (ZS p.2.env d p.1) p.2.bs k
 | none=>none
def Yv (c b:Bool) (x y:Out):Out:=if c=b then x else y
noncomputable def ZE (T:Xx) (b:AC) (k:Kn):Kn:=fun e s=>match e with
 | .normal=>match run T b s with
  | some (e,s)=>k e s
  | none=>none
 | e=>k e s
def Q1 (id:Nat) (k:Kn):Kn:=fun e s=>match e with
 | .exit i=>k (if i=id then .normal else .exit i) s
 | e=>k e s
def Zn (fn:Q3) (n:Qd):Kn:=fun e s=>match e with
 | .normal=>Yj fn n s
 | .ret=>Yj fn n s
 | .exit _=>none
def PF (x y:Out):Yv true true x y=x:=rfl
def M6 (x y:Out):Yv false false x y=x:=rfl
def M7 (x y:Out):Yv true false x y=y:=rfl
def PE (x y:Out):Yv false true x y=y:=rfl
def HE (c b:Bool) (x:Out):Yv c b x x=x:=by unfold Yv;split <;> rfl
def FK (c b:Bool) (x y:Out):Yv (!c) b x y=Yv c (!b) x y:=by cases c <;> cases b <;> rfl
def Y7 (c b:Bool) (x y:Out):Yv c b x y=if c=b then x else y:=rfl
def QgO (ρ:Qq) (bs:Qd) (k:Kn):R T .skip ρ bs k=k .normal ⟨ρ,bs⟩:=by simp only[R,I7]
def QiF (ρ:Qq) (bs:Qd) (k:Kn):R T .ret ρ bs k=k .ret ⟨ρ,bs⟩:=by simp only[R,GQ]
def QgM (id:Nat) (ρ:Qq) (bs:Qd) (k:Kn):R T (.exit id) ρ bs k=k (.exit id) ⟨ρ,bs⟩:=by simp only[R,I4]
def QiE (d:Bool) (ops:ZH) (ρ:Qq) (bs:Qd) (k:Kn):R T (.reg d ops) ρ bs k=O T ops ρ bs k:=by
 simp only[R,O,GP];cases Zz (call T) ops ⟨ρ,bs⟩ <;> rfl
def QiG (a b:AC) (ρ:Qq) (bs:Qd) (k:Kn):R T (.seq a b) ρ bs k=R T a ρ bs (ZE T b k):=by
 simp only[R,GR];cases run T a ⟨ρ,bs⟩with
 | none=>rfl
 | some x=>
  obtain⟨e,s⟩:=x;cases e <;> rfl
def QbN (id:Nat) (c:AC) (ρ:Qq) (bs:Qd) (k:Kn):R T (.block id c) ρ bs k=R T c ρ bs (Q1 id k):=by
 simp only[R,Li];cases run T c ⟨ρ,bs⟩with
 | none=>rfl
 | some x=>
  obtain⟨e,s⟩:=x;cases e <;> rfl
def QgN (c:AC) (ρ:Qq) (bs:Qd) (k:Kn):R T (.loop c) ρ bs k=R T c ρ bs (ZE T (.loop c) k):=by
 simp only[R];rw[I6];cases run T c ⟨ρ,bs⟩with
 | none=>rfl
 | some x=>
  obtain⟨e,s⟩:=x;cases e <;> rfl
def HW (b:AC) (k:Kn) (ρ:Qq) (bs:Qd):ZE T b k .normal ⟨ρ,bs⟩=R T b ρ bs k:=rfl
def QaY (b:AC) (k:Kn) (s:St):ZE T b k .ret s=k .ret s:=rfl
def BT (b:AC) (k:Kn) (s:St) (id:Nat):ZE T b k (.exit id) s=k (.exit id) s:=rfl
def Lr (id:Nat) (k:Kn) (s:St):Q1 id k .normal s=k .normal s:=rfl
def Fl (id:Nat) (k:Kn) (s:St):Q1 id k .ret s=k .ret s:=rfl
def Hu (id:Nat) (k:Kn) (s:St):Q1 id k (.exit id) s=k .normal s:=by simp[Q1]
def Ma (id i:Nat) (h: (i == id)=false) (k:Kn) (s:St):Q1 id k (.exit i) s=k (.exit i) s:=by
 have:i≠id:=by simpa using h
 simp[Q1,this]
def HA (fn:Q3) (k:Qd) (s:St):Zn fn k .normal s=Yj fn k s:=rfl
def AX (fn:Q3) (k:Qd) (s:St):Zn fn k .ret s=Yj fn k s:=rfl
noncomputable def Fx (T:Xx) (v:AV) (n:Nat) (a b:AC) (ρ:Qq) (bs:Qd) (k:Kn):Out:=match v with
 | .bool c=>Yv c true (R T a (upd ρ n (.bool true)) bs k) (R T b (upd ρ n (.bool false)) bs k)
 | _=>none
def Wk {ρ:Qq} {n:Nat} {v:AV} (h:ρ n=v):upd ρ n v=ρ:=by
 funext j;unfold upd;split
 ·rename_i hj;rw[hj,h]
 ·rfl
def QgL (n:Nat) (a b:AC) (ρ:Qq) (bs:Qd) (k:Kn):R T (.cond (.t n) a b) ρ bs k=Fx T (ρ n) n a b ρ bs k:=by
 simp only[R,I3,val,Fx];cases h:ρ n <;> try rfl
 rename_i c;cases c
 ·simp only[AV.strip,PE,Wk h]
 ·simp only[AV.strip,PF,Wk h]
def Fy (c:Bool) (n:Nat) (a b:AC) (ρ:Qq) (bs:Qd) (k:Kn):
  Fx T (.bool c) n a b ρ bs k=Yv c true (R T a (upd ρ n (.bool true)) bs k) (R T b (upd ρ n (.bool false)) bs k):=rfl
def Qij (ρ:Qq) (bs:Qd) (k:Kn):O T [] ρ bs k=k .normal ⟨ρ,bs⟩:=rfl
def Qd5 (d:ZU) (op:AOp) (os:ZH) (ρ:Qq) (bs:Qd) (k:Kn):
  O T (⟨d,op,none⟩:: os) ρ bs k=E T (Qg (call T) op ⟨ρ,bs⟩) d os k:=by
 simp only[O,E,Zz,Zw];cases Qg (call T) op ⟨ρ,bs⟩ <;> rfl
noncomputable def NF (T:Xx) (v:AV) (t:Nat) (b:Bool) (d:ZU) (op:AOp) (os:ZH) (ρ:Qq) (bs:Qd) (k:Kn):Out:=match v with
 | .bool c=>Yv c b (E T (Qg (call T) op ⟨upd ρ t (.bool b),bs⟩) d os k) (O T os (ZS (upd ρ t (.bool (!b))) d (.tup [])) bs k)
 | .tup []=>O T os (ZS ρ d (.tup [])) bs k
 | _=>none
def Wn (d:ZU) (op:AOp) (t:Nat) (b:Bool) (os:ZH) (ρ:Qq) (bs:Qd) (k:Kn):
  O T (⟨d,op,some (t,b)⟩:: os) ρ bs k=NF T (ρ t) t b d op os ρ bs k:=by
 simp only[O,Zz,Zw,NF];cases h:ρ t <;> try rfl
 ·rename_i c;by_cases hcb:c=b
  ·subst hcb;simp only[Yv,QF,Wk h,E];cases Qg (call T) op ⟨ρ,bs⟩ <;> rfl
  ·have hcb2:c= !b:=by cases c <;> cases b <;> simp_all
   subst hcb2;simp only[Yv,hcb,QC,Wk h];rfl
 ·rename_i vs;cases vs <;> rfl
def WO (c:Bool) (t:Nat) (b:Bool) (d:ZU) (op:AOp) (os:ZH) (ρ:Qq) (bs:Qd) (k:Kn):
  NF T (.bool c) t b d op os ρ bs k=Yv c b (E T (Qg (call T) op ⟨upd ρ t (.bool b),bs⟩) d os k) (O T os (ZS (upd ρ t (.bool (!b))) d (.tup [])) bs k):=rfl
def NG (t:Nat) (b:Bool) (d:ZU) (op:AOp) (os:ZH) (ρ:Qq) (bs:Qd) (k:Kn):
  NF T (.tup []) t b d op os ρ bs k=O T os (ZS ρ d (.tup [])) bs k:=rfl
def Qd0 (v:AV) (ρ:Qq) (bs:Qd) (d:Nat) (os:ZH) (k:Kn):E T (some (v,⟨ρ,bs⟩)) (some d) os k=O T os (upd ρ d v) bs k:=rfl
def QbI (v:AV) (ρ:Qq) (bs:Qd) (os:ZH) (k:Kn):E T (some (v,⟨ρ,bs⟩)) none os k=O T os ρ bs k:=rfl
def QdZ (d:ZU) (os:ZH) (k:Kn):E T none d os k=none:=rfl
def BV (ρ:Qq) (d:Nat) (v:AV):ZS ρ (some d) v=upd ρ d v:=rfl
def BU (ρ:Qq) (v:AV):ZS ρ none v=ρ:=rfl
def Si {f:Nat} {fn:Q3} (h:T f=some (.code fn)) (args:Qf) (bs:Qd) (hl:args.length=fn.nparams):
  call T f args bs=R T fn.body (Ys args) bs (Zn fn bs):=by
 rw[Mi,h];simp only[hl,QF,R];cases run T fn.body ⟨Ys args,bs⟩with
 | none=>rfl
 | some x=>
  obtain⟨e,s⟩:=x;cases e <;> rfl
def Wu {f:Nat} {g:Qf->Qd->Option (AV×Qd)} (h:T f=some (.orc g)) (args:Qf) (bs:Qd):call T f args bs=g args bs:=by
 rw[Mi,h]
def An (a:AV) (aq:Qf):Ys (a:: aq) 0=a.strip:=rfl
def Ht (a:AV) (aq:Qf) (i:Nat):Ys (a:: aq) (i+1)=Ys aq i:=rfl
def Vh (ρ:Qq) (i:Nat) (v:AV):upd ρ i v i=v:=by simp[upd]
variable {K:ZJ} (ρ:Nat->AV) (bs:List (List AV))
def Qjp (n:Nat):val ρ (.t n)=(ρ n).strip:=rfl
def Qjo (v:AV):val ρ (.c v)=v:=rfl
end
end Go.Am
namespace Go.Am
section
variable {T:Nat->Option AFn}
def T7 (b:Bool):AV->Bool
 | .bool c=>c == !b
 | .tup []=>true
 | _=>false
noncomputable def O2 (T:Xx) (c:Bool) (_t:Nat) (b:Bool) (os:ZH) (ρ1 ρ2:Qq) (bs1 bs2:Qd) (k:Kn):Out:=
 if c=b then O T os ρ1 bs1 k else O T os ρ2 bs2 k
noncomputable def E2 (T:Xx) (c:Bool) (_t:Nat) (b:Bool) (r:Option (AV×St)) (d:ZU) (os:ZH) (ρ2:Qq) (bs2:Qd) (k:Kn):Out:=
 if c=b then E T r d os k else O T os (ZS ρ2 d (.tup [])) bs2 k
def ZR (c b:Bool) (x y:AV):AV:=if c=b then x else y
def OQ (c b:Bool) (x y:Qd):Qd:=if c=b then x else y
def mrg (c b:Bool) (ρ1 ρ2:Qq):Qq:=fun j=>ZR c b (ρ1 j) (ρ2 j)
def Qda (c b:Bool) (ρ1 ρ2:Qq) (j:Nat):mrg c b ρ1 ρ2 j=ZR c b (ρ1 j) (ρ2 j):=rfl
def H1 (c:Bool) (t:Nat) (b:Bool) (os:ZH) (ρ1 ρ2:Qq) (bs1 bs2:Qd) (k:Kn):
  O2 T c t b os ρ1 ρ2 bs1 bs2 k=O T os (mrg c b ρ1 ρ2) (OQ c b bs1 bs2) k:=by
 unfold O2;split
 ·rename_i h;have:mrg c b ρ1 ρ2=ρ1:=by funext j;simp[mrg,ZR,h]
  rw[this,OQ,Qh h]
 ·rename_i h;have:mrg c b ρ1 ρ2=ρ2:=by funext j;simp[mrg,ZR,h]
  rw[this,OQ,Qe h]
def Qd3 (c:Bool) (t:Nat) (b:Bool) (ρ1 ρ2:Qq) (bs1 bs2:Qd) (k:Kn):
  O2 T c t b [] ρ1 ρ2 bs1 bs2 k=O T [] (mrg c b ρ1 ρ2) (OQ c b bs1 bs2) k:=H1 c t b [] ρ1 ρ2 bs1 bs2 k
def QbK (c:Bool) (t:Nat) (b:Bool) (d:ZU) (op:AOp) (os:ZH) (ρ1 ρ2:Qq) (bs1 bs2:Qd) (k:Kn):
  O2 T c t b (⟨d,op,none⟩:: os) ρ1 ρ2 bs1 bs2 k=O T (⟨d,op,none⟩:: os) (mrg c b ρ1 ρ2) (OQ c b bs1 bs2) k:=H1 c t b _ ρ1 ρ2 bs1 bs2 k
def Ag (c:Bool) (t:Nat) (b:Bool) (d:ZU) (op:AOp) (t':Nat) (b':Bool) (os:ZH) (ρ1 ρ2:Qq) (bs1 bs2:Qd) (k:Kn) (_h: ((t' == t) && (b' == b))=false):
  O2 T c t b (⟨d,op,some (t',b')⟩:: os) ρ1 ρ2 bs1 bs2 k=Yv c b (O T (⟨d,op,some (t',b')⟩:: os) ρ1 bs1 k) (O T (⟨d,op,some (t',b')⟩:: os) ρ2 bs2 k):=by
 unfold O2 Yv;rfl
def QbL (c:Bool) (t:Nat) (b:Bool) (d:ZU) (op:AOp) (os:ZH) (ρ1 ρ2:Qq) (bs1 bs2:Qd) (k:Kn) (h1:ρ1 t= .bool b) (h2:T7 b (ρ2 t)=true):
  O2 T c t b (⟨d,op,some (t,b)⟩:: os) ρ1 ρ2 bs1 bs2 k=E2 T c t b (Qg (call T) op ⟨ρ1,bs1⟩) d os ρ2 bs2 k:=by
 unfold O2 E2;split
 ·rw[Wn,h1,WO,Y7,Qh rfl,Wk h1]
 ·rw[Wn];unfold T7 at h2;split at h2
  ·rename_i c hc;rw[hc,WO];simp only[XL]at h2;subst h2;rw[Y7,Qe (by cases b <;> simp),Wk hc]
  ·rename_i hc;rw[hc,NG]
  ·cases h2
def QbH (c:Bool) (t:Nat) (b:Bool) (v:AV) (ρ1:Qq) (bs1:Qd) (d:ZU) (os:ZH) (ρ2:Qq) (bs2:Qd) (k:Kn):
  E2 T c t b (some (v,⟨ρ1,bs1⟩)) d os ρ2 bs2 k=O2 T c t b os (ZS ρ1 d v) (ZS ρ2 d (.tup [])) bs1 bs2 k:=rfl
noncomputable def G (T:Xx) (v:AV) (d:ZU) (op:AOp) (t:Nat) (b:Bool) (os:ZH) (ρ:Qq) (bs:Qd) (k:Kn):Out:=match v with
 | .bool c=>O2 T c t b (⟨d,op,some (t,b)⟩:: os) (upd ρ t (.bool b)) (upd ρ t (.bool (!b))) bs bs k
 | .tup []=>O T os (ZS (upd ρ t (.tup [])) d (.tup [])) bs k
 | _=>none
def SF (c:Bool) (d:ZU) (op:AOp) (t:Nat) (b:Bool) (os:ZH) (ρ:Qq) (bs:Qd) (k:Kn):
  G T (.bool c) d op t b os ρ bs k=O2 T c t b (⟨d,op,some (t,b)⟩:: os) (upd ρ t (.bool b)) (upd ρ t (.bool (!b))) bs bs k:=rfl
def Qbc (d:ZU) (op:AOp) (t:Nat) (b:Bool) (os:ZH) (ρ:Qq) (bs:Qd) (k:Kn):
  G T (.tup []) d op t b os ρ bs k=O T os (ZS (upd ρ t (.tup [])) d (.tup [])) bs k:=rfl
def QbM (d:ZU) (op:AOp) (t:Nat) (b:Bool) (os:ZH) (ρ:Qq) (bs:Qd) (k:Kn):
  O T (⟨d,op,some (t,b)⟩:: os) ρ bs k=G T (ρ t) d op t b os ρ bs k:=by
 cases h:ρ t <;> try (rw[Wn,h];rfl)
 ·rename_i c;rw[SF];unfold O2;by_cases hcb:c=b
  ·subst hcb;simp[Wk h]
  ·have hcb2:c= !b:=by cases c <;> cases b <;> simp_all
   subst hcb2;rw[Wk h,Qe hcb]
 ·rename_i vs;cases vs with
  | nil=>rw[Qbc,Wn,h,NG,Wk h]
  | cons v vs=>rw[Wn,h];rfl
def Qd1 (d:ZU) (op:AOp) (t:Nat) (os:ZH) (ρ:Qq) (bs:Qd) (k:Kn):
  G T (.bool true) d op t true os ρ bs k=E T (Qg (call T) op ⟨upd ρ t (.bool true),bs⟩) d os k:=by
 rw[SF];unfold O2;rw[Qh rfl,Wn,Vh,WO,PF,Wk (Vh _ _ _)]
def QbJ (d:ZU) (op:AOp) (t:Nat) (os:ZH) (ρ:Qq) (bs:Qd) (k:Kn):
  G T (.bool false) d op t false os ρ bs k=E T (Qg (call T) op ⟨upd ρ t (.bool false),bs⟩) d os k:=by
 rw[SF];unfold O2;rw[Qh rfl,Wn,Vh,WO,M6,Wk (Vh _ _ _)]
def Qjw (d:ZU) (op:AOp) (t:Nat) (os:ZH) (ρ:Qq) (bs:Qd) (k:Kn):
  G T (.bool true) d op t false os ρ bs k=O T os (ZS (upd ρ t (.bool true)) d (.tup [])) bs k:=by
 rw[SF];unfold O2;rw[Qe (by simp),Wn,Vh];simp only[WO,M7,Bool.not_false];rw[Wk (Vh _ _ _)]
def Qjv (d:ZU) (op:AOp) (t:Nat) (os:ZH) (ρ:Qq) (bs:Qd) (k:Kn):
  G T (.bool false) d op t true os ρ bs k=O T os (ZS (upd ρ t (.bool false)) d (.tup [])) bs k:=by
 rw[SF];unfold O2;rw[Qe (by simp),Wn,Vh];simp only[WO,PE,Bool.not_true];rw[Wk (Vh _ _ _)]
def BQ (c b:Bool) (x:AV):ZR c b x x=x:=by unfold ZR;split <;> rfl
def BN (c b:Bool) (x:Qd):OQ c b x x=x:=by unfold OQ;split <;> rfl
def Qh9 (c b:Bool) (x y z:AV):ZR c b (ZR c b x y) z=ZR c b x z:=by unfold ZR;split <;> simp_all
def Qia (c b:Bool) (x y z:AV):ZR c b x (ZR c b y z)=ZR c b x z:=by unfold ZR;split <;> simp_all
def QdH (c:Bool) (x y z:AV):ZR c true (ZR c false x y) z=ZR c true y z:=by cases c <;> rfl
def QdI (c:Bool) (x y z:AV):ZR c true x (ZR c false y z)=ZR c true x y:=by cases c <;> rfl
def QdE (c:Bool) (x y z:AV):ZR c false (ZR c true x y) z=ZR c false y z:=by cases c <;> rfl
def QdF (c:Bool) (x y z:AV):ZR c false x (ZR c true y z)=ZR c false x y:=by cases c <;> rfl
def BS (c:Bool) (x y:AV):ZR c false x y=ZR c true y x:=by cases c <;> rfl
def QaW (x y:AV):ZR true true x y=x:=rfl
def BP (x y:AV):ZR false true x y=y:=rfl
def BO (c x y:Bool):ZR c true (.bool x) (.bool y)= .bool (bif c then x else y):=by cases c <;> rfl
def QaV (c:Bool) (k:IntKind) (x y:Int):ZR c true (.int k x) (.int k y)= .int k (bif c then x else y):=by cases c <;> rfl
def Er (c b:Bool) (x y:AV): (ZR c b x y).strip=ZR c b x.strip y.strip:=by unfold ZR;split <;> rfl
def QdG (c b:Bool) (x y:AV): (ZR c b x y).ok=if c=b then x.ok else y.ok:=by unfold ZR;split <;> rfl
def QaX (c b:Bool) (x y:AV): (ZR c b x y).one=if c=b then x.one else y.one:=by unfold ZR;split <;> rfl
def BR (c b d:Bool) (x y:AV):T7 d (ZR c b x y)=if c=b then T7 d x else T7 d y:=by unfold ZR;split <;> rfl
def HI (c b:Bool):T7 b (.bool c)=(c == !b):=rfl
def FO (b:Bool):T7 b (.tup [])=true:=rfl
def F1 (v x y:AV) (s:St):Option (AV×St):=match v with
 | .bool c=>let v:=ZR c true x y;if v.ok then some (v,s)else none
 | _=>none
def Qhe {K:ZJ} (c a b:AO) (ρ:Qq) (bs:Qd):Qg K (.pick c a b) ⟨ρ,bs⟩=F1 (val ρ c) (val ρ a) (val ρ b) ⟨ρ,bs⟩:=by
 simp only[Qg,F1];cases val ρ c <;> try rfl
 rename_i x;cases x <;> rfl
def F2 (c:Bool) (x y:AV) (s:St):F1 (.bool c) x y s=if(ZR c true x y).ok then some (ZR c true x y,s)else none:=rfl
end
end Go.Am
namespace Go.Am
def QdT (ρ:Qq) (i:Nat) (v:AV) (j:Nat):upd ρ i v j=if j=i then v else ρ j:=rfl
def LC:AV.strip (.undef)= .undef:=rfl
def Ee:AV.ok (.undef)=false:=rfl
def HP:AV.one (.undef)=false:=rfl
def HO:AV.gpfree (.undef)=true:=rfl
def HS (k:IntKind) (n:Int):AV.strip (.int k n)= .int k n:=rfl
def QaL (k:IntKind) (n:Int):AV.ok (.int k n)=true:=rfl
def BJ (k:IntKind) (n:Int):AV.one (.int k n)=true:=rfl
def Bz (k:IntKind) (n:Int):AV.gpfree (.int k n)=true:=rfl
def I9 (b:Bool):AV.strip (.bool b)= .bool b:=rfl
def BF (b:Bool):AV.ok (.bool b)=true:=rfl
def Eh (b:Bool):AV.one (.bool b)=true:=rfl
def Ec (b:Bool):AV.gpfree (.bool b)=true:=rfl
def HT:AV.strip (.nlp)= .nlp:=rfl
def QaM:AV.ok (.nlp)=true:=rfl
def BK:AV.one (.nlp)=true:=rfl
def BA:AV.gpfree (.nlp)=true:=rfl
def I8:AV.strip (.anyb)= .anyb:=rfl
def BE:AV.ok (.anyb)=true:=rfl
def Ef:AV.one (.anyb)=true:=rfl
def Eb:AV.gpfree (.anyb)=true:=rfl
def HU (s:Qb):AV.strip (.str s)= .str s:=rfl
def QaN (s:Qb):AV.ok (.str s)=true:=rfl
def BL (s:Qb):AV.one (.str s)=true:=rfl
def BB (s:Qb):AV.gpfree (.str s)=true:=rfl
def HQ (cs:Qf):AV.strip (.agg cs)= .agg cs:=rfl
def QaJ (cs:Qf):AV.ok (.agg cs)=true:=rfl
def BH (cs:Qf):AV.one (.agg cs)=false:=rfl
def Bw (cs:Qf):AV.gpfree (.agg cs)=QV cs:=rfl
def Ep (o:Bool) (z:Nat) (xs:Qd):AV.strip (.sl o z xs)= .sl false z xs:=rfl
def QdD (o:Bool) (z:Nat) (xs:Qd):AV.ok (.sl o z xs)=true:=rfl
def QaT (o:Bool) (z:Nat) (xs:Qd):AV.one (.sl o z xs)=true:=rfl
def QaI (o:Bool) (z:Nat) (xs:Qd):AV.gpfree (.sl o z xs)=Yr xs:=rfl
def Ej (cs:Qf):AV.strip (.bx cs)= .bx cs:=rfl
def Qdz (cs:Qf):AV.ok (.bx cs)=false:=rfl
def QaP (cs:Qf):AV.one (.bx cs)=false:=rfl
def QaF (cs:Qf):AV.gpfree (.bx cs)=QV cs:=rfl
def Em (i o:Nat):AV.strip (.gp i o)= .gp i o:=rfl
def QdB (i o:Nat):AV.ok (.gp i o)=true:=rfl
def QaR (i o:Nat):AV.one (.gp i o)=true:=rfl
def QaH (i o:Nat):AV.gpfree (.gp i o)=false:=rfl
def Eo (i o z n:Nat):AV.strip (.gs i o z n)= .gs i o z n:=rfl
def QdC (i o z n:Nat):AV.ok (.gs i o z n)=true:=rfl
def QaS (i o z n:Nat):AV.one (.gs i o z n)=true:=rfl
def Ha (cs:Qf):AV.strip (.rptr cs)= .rptr cs:=rfl
def BG (cs:Qf):AV.ok (.rptr cs)=true:=rfl
def Ei (cs:Qf):AV.one (.rptr cs)=true:=rfl
def Ed (cs:Qf):AV.gpfree (.rptr cs)=QV cs:=rfl
def Ek (f:Nat) (cs:Qf):AV.strip (.fn f cs)= .fn f cs:=rfl
def QdA (f:Nat) (cs:Qf):AV.ok (.fn f cs)=true:=rfl
def QaQ (f:Nat) (cs:Qf):AV.one (.fn f cs)=true:=rfl
def QaG (f:Nat) (cs:Qf):AV.gpfree (.fn f cs)=QV cs:=rfl
def HV (vs:Qf):AV.strip (.tup vs)= .tup vs:=rfl
def QaO (vs:Qf):AV.ok (.tup vs)=true:=rfl
def BM (vs:Qf):AV.one (.tup vs)=false:=rfl
def BC (vs:Qf):AV.gpfree (.tup vs)=QV vs:=rfl
def HR (b:Bool):AV.strip (.err b)= .err b:=rfl
def QaK (b:Bool):AV.ok (.err b)=true:=rfl
def BI (b:Bool):AV.one (.err b)=true:=rfl
def Bx (b:Bool):AV.gpfree (.err b)=true:=rfl
def Qaa {α:Type} (p:Prop) [Decidable p] (a b c:α): (if p then(if p then a else b)else c)=if p then a else c:=by split <;> simp_all
def A9 {α:Type} (p:Prop) [Decidable p] (a b c:α): (if p then a else(if p then b else c))=if p then a else c:=by split <;> simp_all
attribute [simp] HT QaM BK BA LC Ee HP HO HS QaL BJ Bz I9 BF Eh Ec I8 BE Ef Eb HU QaN BL BB HQ QaJ BH Bw Ep QdD QaT QaI Ej Qdz QaP QaF Em QdB QaR QaH Eo QdC QaS Ha BG Ei Ed Ek QdA QaQ QaG HV QaO BM BC HR QaK BI Bx Qaa A9
attribute [simp] Sm QgO QiF QgM QiE QiG QbN QgL Qij Qd5 QbM Qd0 QbI QdZ BV BU Fy HW QaY BT Lr Fl Hu HA AX PF M7 M6 PE FK HE Qg Qjp Qjo An Ht Oy aun Yj YB Wi QV Yr Yw Z8 cellsOf put QdT Qd3 QbK Ag QbL QbH Qda SF Qbc HI FO BQ BN Qh9 Qia QdH QdI QdE QdF BS QaW BP BO QaV Er QdG QaX BR F2
attribute [simp ↓] Qhe
attribute [simp 2000] Qd1 QbJ Qjw Qjv
def HF (c:Bool) (x y:Out):Yv c false x y=Yv c true y x:=by cases c <;> rfl
def HD (c x y:Bool) (s:Qd):Yv c true (some (.bool x,s)) (some (.bool y,s))=some (.bool (bif c then x else y),s):=by cases c <;> rfl
def It (c:Bool) (k:IntKind) (x y:Int) (s:Qd):Yv c true (some (.int k x,s)) (some (.int k y,s))=some (.int k (bif c then x else y),s):=by cases c <;> rfl
def Qo {T:Xx} {c c':AC} (h:c=c') (ρ:Qq) (bs:Qd) (k:Kn):R T (.loop c) ρ bs k=R T c' ρ bs (ZE T (.loop c) k):=by
 subst h;exact QgN c ρ bs k
attribute [simp] toI
def Hd {α:Type} (x:α) (xs:List α): (x:: xs)[0]? =some x:=rfl
attribute [simp] HF HD It XV Yq Zb Bool.cond_decide
def Q2 {n:Int} (h1: -9223372036854775808<=n) (h2:n < 9223372036854775808):IntKind.i64.wrap n=n:=by
 simp only[IntKind.wrap_i64];omega
def wr1 (n:Nat) (h:n+1 < 9223372036854775808):IntKind.i64.wrap ((n:Int)+1)=(n:Int)+1:=Q2 (by omega) (by omega)
def XA {α:Type} {l pre post:List α} {x:α} (h:l=pre ++ x:: post):l.length=pre.length+ (post.length+1):=by rw[h];simp
def XX {α:Type} {l pre post:List α} {x:α} (h:l=pre ++ x:: post): (pre.length:Int) < (l.length:Int):=by have:=XA h;omega
@[simp] def QkW (n:Nat) (vs:Qf):stV (.t n) vs=vs.map AV.strip:=rfl
@[simp] def QkS (z:Nat) (vs:Qf):stV (.c (.sl true z [])) vs=vs.map fun _=> .sl true z []:=rfl
@[simp] def QkR (k:IntKind) (n:Int) (vs:Qf):stV (.c (.int k n)) vs=vs.map AV.strip:=rfl
@[simp] def QkT (s:Qb) (vs:Qf):stV (.c (.str s)) vs=vs.map AV.strip:=rfl
@[simp] def Qkw (b:Bool) (vs:Qf):stV (.c (.bool b)) vs=vs.map AV.strip:=rfl
@[simp] def QkP (cs:Qf) (vs:Qf):stV (.c (.agg cs)) vs=vs.map AV.strip:=rfl
@[simp] def QkQ (b:Bool) (vs:Qf):stV (.c (.err b)) vs=vs.map AV.strip:=rfl
@[simp] def QkI (i o k:Nat):Tr (.gs i o 0 0) (.sl true k [])= .sl true k []:=rfl
@[simp] def Qkg (k:IntKind) (n:Int) (z:AV):Tr (.int k n) z= .int k n:=rfl
@[simp] def Qkh (s:Qb) (z:AV):Tr (.str s) z= .str s:=rfl
@[simp] def Qjs (b:Bool) (z:AV):Tr (.bool b) z= .bool b:=rfl
@[simp] def QkJ (o:Bool) (k:Nat) (xs:Qd) (z:AV):Tr (.sl o k xs) z= .sl false k xs:=rfl
attribute [simp] Xi
@[simp] def Qjm (i:Nat):AV.strip (.mp i)= .mp i:=rfl
@[simp] def Qh8 (z:Nat) (xs:Qd) (vs:Qf):AV.strip (.otup z xs vs)= .tup (.sl false z xs:: vs):=rfl
@[simp] def Qjt (z:Nat) (xs:Qd) (vs:Qf):AV.ok (.otup z xs vs)=true:=rfl
@[simp] def Qji (z:Nat) (xs:Qd) (vs:Qf):AV.gpfree (.otup z xs vs)=(Yr xs && QV vs):=rfl
@[simp] def Qjn (z:Nat) (cs:Qf):AV.strip (.pv z cs)= .pv z cs:=rfl
@[simp] def QkO (z:Nat) (cs:Qf):AV.ok (.pv z cs)=false:=rfl
@[simp] def QkN (i:Nat):AV.ok (.mp i)=true:=rfl
@[simp] def Qku (i:Nat):AV.one (.mp i)=true:=rfl
@[simp] def Qkq (i:Nat):AV.gpfree (.mp i)=false:=rfl
def SO:=@Bool.true_or
@[simp] def MP: ∀bs:Qd,Yc bs bs=true
 | []=>rfl
 | x:: xs=>by simp only[Yc,Z5,MP xs,SO,We]
@[simp] def QjA (ys:Qd):Yc [] ys=true:=rfl
@[simp] def Hx (a b c:Qd):Yc (a ++ b) (a ++ c)=Yc b c:=by
 induction a with
 | nil=>rfl
 | cons x xs ih=>simp only[X9,Yc,Z5,ih,SO,We]
@[simp] def Qjz (a c:Qd):Yc a (a ++ c)=true:=by
 have:=Hx a [] c;simpa using this
@[simp] def Qjr (x:Qf) (xs ys:Qd):Yc (x:: xs) (x:: ys)=Yc xs ys:=by simp only[Yc,Z5,SO,We]
@[simp] def J4 {cs:Qf} (h:QV cs=true): ∀(bs:Qd) (i:Nat),Yc bs (bs.set i cs)=true
 | [],_=>rfl
 | x:: xs,0=>by simp only[List.set_cons_zero,Yc,h,MP,Bool.or_true,Wf]
 | x:: xs,i+1=>by simp only[List.set_cons_succ,Yc,Z5,J4 h xs i,SO,Wf]
def Mj: ∀{xs ys:Qd},xs.length<=ys.length->(∀(i:Nat) (x y:Qf),xs[i]? =some x->ys[i]? =some y->x=y\/QV y=true)->Yc xs ys=true
 | [],_,_,_=>rfl
 | _:: _,[],h,_=>by simp at h
 | x:: xs,y:: ys,h,hh=>by
  simp only[Yc,Qi,XQ];refine⟨?_,Mj (by simpa using h) fun i a b ha hb=>hh (i+1) a b (by simpa using ha) (by simpa using hb)⟩;rcases hh 0 x y rfl rfl with h1 | h1
  ·subst h1;exact .inl (Z5 x)
  ·exact .inr h1
@[simp] def QkH {x y:Qf} (h:QV y=true) (xs ys:Qd):Yc (x:: xs) (y:: ys)=Yc xs ys:=by simp only[Yc,h,Bool.or_true,We]
@[simp] def Qih:QV []=true:=rfl
@[simp] def Ir (x:AV) (xs:Qf):QV (x:: xs)=(x.gpfree && QV xs):=rfl
@[simp] def HC: ∀n:Nat,QV (List.replicate n .undef)=true
 | 0=>rfl
 | n+1=>by rw[JC,Ir,HC n];rfl
@[simp] def Qg3 (bs:Qd) (i:Nat):Yc bs (bs.set i [])=true:=J4 rfl bs i
@[simp] def Qjk (t i n:Nat):AV.strip (.gb t i n)= .gb t i n:=rfl
@[simp] def QkL (t i n:Nat):AV.ok (.gb t i n)=true:=rfl
@[simp] def Qks (t i n:Nat):AV.one (.gb t i n)=true:=rfl
@[simp] def Qko (t i n:Nat):AV.gpfree (.gb t i n)=false:=rfl
@[simp] def Qjl (t i:Nat):AV.strip (.gt t i)= .gt t i:=rfl
@[simp] def QkM (t i:Nat):AV.ok (.gt t i)=true:=rfl
@[simp] def Qkt (t i:Nat):AV.one (.gt t i)=true:=rfl
@[simp] def Qkp (t i:Nat):AV.gpfree (.gt t i)=false:=rfl
@[simp] def Qjj (f:Nat) (cs:Qf):AV.strip (.bf f cs)= .bf f cs:=rfl
@[simp] def QkK (f:Nat) (cs:Qf):AV.ok (.bf f cs)=true:=rfl
@[simp] def Qkr (f:Nat) (cs:Qf):AV.one (.bf f cs)=true:=rfl
@[simp] def Qkn (f:Nat) (cs:Qf):AV.gpfree (.bf f cs)=QV cs:=by simp only[AV.gpfree]
def zcc (n:Nat) {fn:Q3} (h:tb n=some (.code fn)) {args:Qf} {bs:Qd} (hl:args.length=fn.nparams):
  call tb n args bs=R tb fn.body (Ys args) bs (Zn fn bs):=Si h args bs hl
end Go.Am
namespace Go.Am
set_option maxRecDepth 20000
def Pm (a b:Int) (bs:Qd):call tb 32 [.int .i64 a,.int .i64 b] bs=some (.int .i64 (if a < b then -1 else if a > b then 1 else 0),bs):=by
 rw[zcc 32 rfl rfl];simp[f32,f32C]
def ZW (c:UInt8):Bool:=(97<=c.toNat && c.toNat<=122) || (65<=c.toNat && c.toNat<=90) || (48<=c.toNat && c.toNat<=57) || c.toNat == 95 || c.toNat == 35
def J2 (n m:Nat): ((n:Int) == (m:Int))=(n == m):=by rw[Bool.eq_iff_iff,XL,XL];omega
def Ny (n:Nat): ((n:Int) == 95)=(n == 95):=J2 n 95
def Nx (n:Nat): ((n:Int) == 35)=(n == 35):=J2 n 35
def Tg (c:UInt8) (bs:Qd):call tb 9 [.int .u8 c.toNat] bs=some (.bool (ZW c),bs):=by
 rw[zcc 9 rfl rfl];simp (config:={maxSteps:=1000000}) [f9,f9C,ZW,Ny,Nx];have e1: ∀m:Nat,((m:Int)<=(c.toNat:Int))=(m<=c.toNat):=fun m=>by simp
 have e2: ∀m:Nat,((c.toNat:Int)<=(m:Int))=(c.toNat<=m):=fun m=>by simp
 simp only[show(97:Int)=((97:Nat):Int)from rfl,show(122:Int)=((122:Nat):Int)from rfl,show(65:Int)=((65:Nat):Int)from rfl,show(90:Int)=((90:Nat):Int)from rfl,show(48:Int)=((48:Nat):Int)from rfl,show(57:Int)=((57:Nat):Int)from rfl,e1,e2];by_cases h1:97<=c.toNat <;> by_cases h2:c.toNat<=122 <;> by_cases h3:65<=c.toNat <;> by_cases h4:c.toNat<=90 <;> by_cases h5:48<=c.toNat <;> by_cases h6:c.toNat<=57 <;> simp[h1,h2,h3,h4,h5,h6]
def HH (s:Qb) (bs:Qd) (hs:s.length < 4611686018427387904): ∀(k i:Nat) (ρ:Qq),s.length - i=k->i<=s.length->ρ 0= .str s->ρ 38= .int .i64 s.length->ρ 39= .int .i64 i->
  R tb (.loop f8l0) ρ bs (Q1 0 (ZE tb f8r0 (Zn f8 bs)))=some (.bool ((s.drop i).all ZW),bs):=by
 intro k
 induction k with
 | zero=>
  intro i ρ hk hi h0 h38 h39;have:i=s.length:=by omega
  subst this;rw[Qo f8l0.eq_1];simp[h0,h38,h39,f8r0]
 | succ k ih=>
  intro i ρ hk hi h0 h38 h39;have hlt:i < s.length:=by omega
  have hw:IntKind.i64.wrap ((i:Int)+1)=((i+1:Nat):Int):=Q2 (by omega) (by omega);rw[Qo f8l0.eq_1,O1 hlt,YG];cases hb:ZW s[i]
  ·simp[h0,h38,h39,hlt,Tg,hb]
  ·simp[h0,h38,h39,hlt,Tg,hb,hw];rw[ih (i+1)] <;> first | rfl | omega | simp[h0,h38]
def Q4:Qb->Bool
 | []=>false
 | c:: r=>decide (r.length < 24) && ZW c && !(decide (48<=c.toNat) && decide (c.toNat<=57)) && c.toNat != 95 && c.toNat != 35 && r.all ZW
def Xl:=@eq_iff_iff
def Of (s:Qb) (bs:Qd) (hs:s.length < 4611686018427387904):call tb 8 [.str s] bs=some (.bool (Q4 s),bs):=by
 rw[zcc 8 rfl rfl];cases s with
 | nil=>simp[f8C,Q4]
 | cons c r=>
  have hl:=HH (c:: r) bs hs ((c:: r).length - 0) 0;simp (config:={maxSteps:=1000000}) [f8C,Tg,hl,Ny,Nx];have e1: (24 < (r.length:Int)+1)=(¬r.length < 24):=by rw[Xl];omega
  have e2: ((48:Int)<=(c.toNat:Int))=(48<=c.toNat):=by rw[Xl];omega
  have e3: ((c.toNat:Int)<=57)=(c.toNat<=57):=by rw[Xl];omega
  simp only[Q4,e1,e2,e3,bne];by_cases h1:r.length < 24 <;> by_cases h2:48<=c.toNat <;> by_cases h3:c.toNat<=57 <;> cases ZW c <;> simp[h1,h2,h3]
end Go.Am
namespace Go.Am
set_option maxRecDepth 20000
attribute [simp] Mt Mu
attribute [simp] Vo Wh Vp Xr
attribute [simp] T5 MW X6 NA Py MV CG CH CI CJ Gr Gs Gt Gu P2 Rs
attribute [simp] Int.toNat_natCast
attribute [simp] Mt Mu
def R0 (t:Tm) (bs:Qd) (hm:t.mass < big) (ih: ∀x∈t.kids,∀bs,call tb 31 [.agg (Ql x)] bs=some (.int .i64 x.nodes,bs)):
  ∀(post pre:Qp) (ρ:Qq),t.kids=pre ++ post->ρ 7= .sl false 4 (Qz t.kids)->ρ 8= .int .i64 t.kids.length->ρ 9= .int .i64 pre.length->ρ 3= .int .i64 (1+QK pre:Nat)->
  R tb (.loop f31l0) ρ bs (Q1 0 (ZE tb f31r0 (Zn f31 bs)))=some (.int .i64 t.nodes,bs):=by
 have hm2:=Z7 t;have hn:=Y2 t.kids;unfold big at hm;intro post
 induction post with
 | nil=>
  intro pre ρ hk h7 h8 h9 h3;rw[Qo f31l0.eq_1];simp at hk;simp[h3,h8,h9,<- hk,f31r0,UQ]
 | cons x post IH=>
  intro pre ρ hk h7 h8 h9 h3;have hg:=ZM hk;have hl:=XA hk;have hnn:QK t.kids=QK pre+ (x.nodes+QK post):=by rw[hk,XH];simp[QK]
  have hw1:=wr1 pre.length (by omega);have hw2:IntKind.i64.wrap (1+ (QK pre:Int)+ (x.nodes:Int))=1+ (QK pre:Int)+ (x.nodes:Int):=Q2 (by omega) (by omega);have hlt:=XX hk;rw[Qo f31l0.eq_1];simp[h3,h7,h8,h9,hg,hw1,hw2,hlt,ih x (by rw[hk];simp)];rw[IH (pre ++ [x])] <;> simp[h3,h7,h8,h9,hk,XH,QK];omega
def Tf: ∀(t:Tm) (bs:Qd),t.mass < big->call tb 31 [.agg (Ql t)] bs=some (.int .i64 t.nodes,bs):=by
 refine Xg ?_;intro k n s ks ih bs hm;rw[zcc 31 rfl rfl];simp[f31C];refine R0 (.mk k n s ks) bs hm (fun x hx bs=>ih x hx bs ?_) ks [] _ ?_ ?_ ?_ ?_ ?_ <;> (try simp[QK]);have:=Yp hx;have:=Z7 (.mk k n s ks);simp at *;omega
end Go.Am
namespace Go.Am
set_option maxRecDepth 20000
def two (bs:Qd) (i j:Nat) (n d:Int):Qd:=(bs.set i [.int .i64 n]).set j [.int .i64 d]
section
variable {bs:List (List AV)} {i j:Nat} {n d m:Int}
def TM: (two bs i j n d).length=bs.length:=by simp[two]
def QbE (hi:i < bs.length) (hij:i≠j): (two bs i j n d)[i]? =some [.int .i64 n]:=by
 rw[two,WX (Ne.symm hij),VN hi]
def QbF (hj:j < bs.length): (two bs i j n d)[j]? =some [.int .i64 d]:=by simp[two,hj]
def Qa8 (hij:i≠j): (two bs i j n d).set i [.int .i64 m]=two bs i j m d:=by
 simp only[two];rw[List.set_comm _ _ (Ne.symm hij),Nr]
@[simp] def J5 {n' d':Int}:Yc (two bs i j n d) (two bs i j n' d')=true:=Mj (by simp[TM]) fun k x y hx hy=>by
 unfold two at hx hy;rw[YE]at hx hy;split at hy
 ·split at hy
  ·injection hy with hy;subst hy;exact .inr rfl
  ·cases hy
 ·rename_i hjk;rw[Qe hjk]at hx;rw[YE]at hx hy;split at hy
  ·split at hy
   ·injection hy with hy;subst hy;exact .inr rfl
   ·cases hy
  ·rename_i hik;rw[Qe hik,hy]at hx;injection hx with hx
   exact .inl hx.symm
def Qa9: (two bs i j n d).set j [.int .i64 m]=two bs i j n m:=by simp[two]
end
def Vq (t:Tm):Int:=
 if t.kind=1\/t.kind=2 then
  if(t.sort < 0\/5 < t.sort)\/0 < t.kids.length then 1 else if Q4 t.name=false then 2 else if 8 < t.kids.length then 3 else 0
 else if t.kind=3 then
  if t.sort≠0 then 1 else if Q4 t.name=false then 2 else if 8 < t.kids.length then 3 else 0
 else 1
mutual
def Yh:Tm->Int
 | .mk k n s ks=>if Vq (.mk k n s ks)≠0 then Vq (.mk k n s ks)else Xd ks
def Xd:List Tm->Int
 | []=>0
 | t:: ts=>if Yh t≠0 then Yh t else Xd ts
end
mutual
def Wv:Tm->Int->Int×Int->Int×Int
 | .mk k n s ks,l,p=>if Vq (.mk k n s ks)≠0 then(p.1+1,if l > p.2 then l else p.2)else Vz ks l (p.1+1,if l > p.2 then l else p.2)
def Vz:List Tm->Int->Int×Int->Int×Int
 | [],_,p=>p
 | t:: ts,l,p=>if Yh t≠0 then Wv t (l+1) p else Vz ts l (Wv t (l+1) p)
end
mutual
theorem Gk: ∀(t:Tm) (l:Int) (p:Int×Int),p.1<=(Wv t l p).1/\(Wv t l p).1<=p.1+t.nodes
 | .mk k n s ks,l,p=>by
  simp only[Wv,Tm.nodes];have:=Gi ks l (p.1+1,if l > p.2 then l else p.2);split <;> simp at * <;> omega
theorem Gi: ∀(ts:List Tm) (l:Int) (p:Int×Int),p.1<=(Vz ts l p).1/\(Vz ts l p).1<=p.1+QK ts
 | [],l,p=>by simp[Vz,QK]
 | t:: ts,l,p=>by
  simp only[Vz,QK];have:=Gk t (l+1) p;have:=Gi ts l (Wv t (l+1) p);split <;> omega
end
def Ft (t:Tm) (l:Int) (bs:Qd) (i j:Nat) (hi:i < bs.length) (hj:j < bs.length) (hij:i≠j) (hm:t.mass < big) (hl:0<=l/\l+t.depth<=big) (n0 d0:Int)
  (ih: ∀x∈t.kids,∀n d:Int,0<=n->n+x.nodes < 2*big->call tb 7 [.agg (Ql x),.int .i64 (l+1),.gp i 0,.gp j 0] (two bs i j n d)=some (.int .i64 (Yh x),two bs i j (Wv x (l+1) (n,d)).1 (Wv x (l+1) (n,d)).2)):
  ∀(post pre:Qp) (n d:Int) (ρ:Qq),0<=n->n+QK post < 2*big->t.kids=pre ++ post->ρ 57= .sl false 4 (Qz t.kids)->ρ 58= .int .i64 t.kids.length->ρ 59= .int .i64 pre.length->
   ρ 1= .int .i64 l->ρ 2= .gp i 0->ρ 3= .gp j 0->
  R tb (.loop f7l0) ρ (two bs i j n d) (Q1 1 (ZE tb f7r0 (Zn f7 (two bs i j n0 d0))))=
   some (.int .i64 (Xd post),two bs i j (Vz post l (n,d)).1 (Vz post l (n,d)).2):=by
 have hm2:=Z7 t;have hdp:=Rq t;unfold big at *;have hji:=Ne.symm hij;intro post
 induction post with
 | nil=>
  intro pre n d ρ hn hnb hk h57 h58 h59 h1 h2 h3;rw[Qo f7l0.eq_1];simp at hk;simp[h1,h2,h3,h57,h58,h59,<- hk,f7r0,Xd,Vz,TM];rw[VM (by simp[TM])];exact⟨J5,rfl⟩
 | cons x post IH=>
  intro pre n d ρ hn hnb hk h57 h58 h59 h1 h2 h3;have hg:=ZM hk;have hlen:t.kids.length=pre.length+ (post.length+1):=by rw[hk];simp
  simp only[QK]at hnb;have hw1:=wr1 pre.length (by omega);have hw2:IntKind.i64.wrap (l+1)=l+1:=Q2 (by omega) (by omega);have hlt: (pre.length:Int) < (t.kids.length:Int):=by omega
  have hx:=ih x (by rw[hk];simp) n d hn (by omega);have hc:=Gk x (l+1) (n,d);rw[Qo f7l0.eq_1];by_cases he:Yh x=0
  ·simp[h1,h2,h3,h57,h58,h59,hg,hw1,hw2,hlt,hx,he];simp only[Xd,Vz,he,ne_eq,not_true,QC];rw[IH (pre ++ [x])] <;> (first | (simp at hc;omega) | simp[h1,h2,h3,h57,h58,h59,hk])
  ·simp[h1,h2,h3,h57,h58,h59,hg,hw1,hw2,hlt,hx,he,Xd,Vz];rw[VM (by simp[TM])];exact⟨J5,rfl⟩
def Fs: ∀(t:Tm) (l:Int) (bs:Qd) (i j:Nat) (n d:Int),i < bs.length->j < bs.length->i≠j->t.mass < big->0<=l->l+t.depth<=big->0<=n->n+t.nodes < 2*big->
  call tb 7 [.agg (Ql t),.int .i64 l,.gp i 0,.gp j 0] (two bs i j n d)=some (.int .i64 (Yh t),two bs i j (Wv t l (n,d)).1 (Wv t l (n,d)).2):=by
 refine Xg ?_;intro k nm s ks ih l bs i j n d hi hj hij hm hl hld hn hnb;have hm2:=Z7 (.mk k nm s ks);have hnn:=UQ (.mk k nm s ks);have hdp:=Rq (.mk k nm s ks);simp only[Xr,Wh]at hm2 hnn hdp;have hdl:=W3 ks;have hnm:=Y2 ks;have hloop: ∀ρ:Qq,ρ 57= .sl false 4 (Qz ks)->ρ 58= .int .i64 ks.length->ρ 59= .int .i64 0->
   ρ 1= .int .i64 l->ρ 2= .gp i 0->ρ 3= .gp j 0->
  R tb (.loop f7l0) ρ (two bs i j (n+1) (if l > d then l else d)) (Q1 1 (ZE tb f7r0 (Zn f7 (two bs i j n d))))=
   some (.int .i64 (Xd ks),two bs i j (Vz ks l (n+1,if l > d then l else d)).1 (Vz ks l (n+1,if l > d then l else d)).2):=by
  intro ρ h57 h58 h59 h1 h2 h3;refine Ft (.mk k nm s ks) l bs i j hi hj hij hm ⟨hl,hld⟩ n d ?_ ks [] (n+1) (if l > d then l else d) ρ (by omega) (by omega) rfl h57 h58 h59 h1 h2 h3;intro x hx n d hn hnb;have h1:=Yp hx;have h2:=Rp hx;simp only[Xr]at h1 h2;exact ih x hx (l+1) bs i j n d hi hj hij (by omega) (by omega) (by omega) hn hnb
 unfold big at hm hnb;have hw:IntKind.i64.wrap (n+1)=n+1:=Q2 (by omega) (by omega);have hji:=Ne.symm hij;have htk: ∀(a b:Int),List.take bs.length (two bs i j a b)=two bs i j a b:=fun a b=>VM (by simp[TM]);have hnl:nm.length < 4611686018427387904:=by omega
 have hks: ((8:Int) < ks.length)=(8 < ks.length):=by rw[Xl];omega
 rw[zcc 7 rfl rfl];simp (config:={maxSteps:=1000000}) [f7C,hw,QbE hi hij,QbF hj,Qa8 hij,Qa9,TM,Of,hnl,htk,hks];simp only[gt_iff_lt]at hloop;clear ih hm hl hld hn hnb hm2 hnn hdp hdl hnm hw htk hnl hks hi hj hij hji;generalize hdd: (if d < l then l else d)=d' at *;simp only[Y7,Qm,XQ]
 repeat' split
 all_goals simp only[Yh,Wv,Vq,Vo,Vp,Wh,Xr,gt_iff_lt,hdd]
 all_goals first
  | (rw[hloop] <;> simp[*];done)
  | (simp[*];done)
  | skip
def QZ (t:Tm):Int:=if Yh t≠0 then Yh t else if 400 < t.nodes\/40 < t.depth then 3 else 0
mutual
theorem Gl: ∀(t:Tm) (l:Int) (p:Int×Int),Yh t=0->Wv t l p=(p.1+t.nodes,max p.2 (l+t.depth - 1))
 | .mk k n s ks,l,p,h=>by
  simp only[Yh]at h;split at h
  ·rename_i hne;exact absurd h hne
  ·rename_i hne;simp only[Wv,hne,QC,Tm.nodes,Tm.depth];rw[Gj ks l _ h];refine Prod.ext ?_ ?_
   ·simp;omega
   ·cases ks with
    | nil=>simp[Yb,QK];split <;> omega
    | cons t ts=>simp[Yb];split <;> omega
theorem Gj: ∀(ts:List Tm) (l:Int) (p:Int×Int),Xd ts=0->Vz ts l p=(p.1+QK ts,if ts=[]then p.2 else max p.2 (l+Yb ts))
 | [],l,p,_=>by simp[Vz,QK]
 | t:: ts,l,p,h=>by
  simp only[Xd]at h;split at h
  ·rename_i hne;exact absurd h hne
  ·rename_i hne;have he:Yh t=0:=by simpa using hne
   simp only[Vz,hne,QC,QK,Yb];rw[Gj ts l _ h,Gl t (l+1) p he];refine Prod.ext ?_ ?_
   ·simp;omega
   ·cases ts with
    | nil=>simp[Yb];omega
    | cons u us=>simp[Yb];omega
end
def Nw (t:Tm) (bs:Qd) (hm:t.mass < big):call tb 6 [.agg (Ql t)] bs=some (.int .i64 (QZ t),bs):=by
 have h2:bs ++ [[AV.int .i64 0],[AV.int .i64 0]]=two (bs ++ [[AV.int .i64 0],[AV.int .i64 0]]) bs.length (bs.length+1) 0 0:=by
  simp[two]
 have hn:=RI t;have hd:=SX t;have hb:big=1099511627776:=rfl;have hc:=Fs t 1 (bs ++ [[AV.int .i64 0],[AV.int .i64 0]]) bs.length (bs.length+1) 0 0 (by simp) (by simp) (by omega) hm (by omega) (by omega) (by omega) (by omega);rw[<- h2]at hc;have hi:=QbE (bs:=bs ++ [[AV.int .i64 0],[AV.int .i64 0]]) (i:=bs.length) (j:=bs.length+1) (n:=(Wv t 1 (0,0)).1) (d:=(Wv t 1 (0,0)).2) (by simp) (by omega);have hj:=QbF (bs:=bs ++ [[AV.int .i64 0],[AV.int .i64 0]]) (i:=bs.length) (j:=bs.length+1) (n:=(Wv t 1 (0,0)).1) (d:=(Wv t 1 (0,0)).2) (by simp);have htk:List.take bs.length (two (bs ++ [[AV.int .i64 0],[AV.int .i64 0]]) bs.length (bs.length+1) (Wv t 1 (0,0)).1 (Wv t 1 (0,0)).2)=bs:=by
  simp[two]
 have hcnt:=Gl t 1 (0,0);rw[zcc 6 rfl rfl];simp[f6C,hc,hi,hj,htk,QZ];by_cases he:Yh t=0
 ·have:=Rq t;have e1: (400 < (t.nodes:Int))=(400 < t.nodes):=by rw[Xl];omega
  have e2: (40 < (max 0 (1+ (t.depth:Int) - 1)))=(40 < t.depth):=by rw[Xl];omega
  simp[he,hcnt he,e1,e2,Y7]
 ·simp[he]
end Go.Am
namespace Go.Am
set_option maxRecDepth 20000
def Ri (a b:Int) (bs:Qd):call tb 32 [.int .i64 a,.int .i64 b] bs=some (.int .i64 (sgn a b),bs):=Pm a b bs
def OC (a b:Qb) (bs:Qd):call tb 33 [.str a,.str b] bs=some (.int .i64 (Y0 a b),bs):=by
 rw[Wu tb_33];rfl
def TO (t u:Tm) (bs:Qd) (hm:t.mass < big) (hu:u.mass < big)
  (ih: ∀x∈t.kids,∀y bs,y.mass < big->call tb 30 [.agg (Ql x),.agg (Ql y)] bs=some (.int .i64 (Zq x y),bs)):
  ∀(xs ys pre pre':Qp) (c:Int) (ρ:Qq),t.kids=pre ++ xs->u.kids=pre' ++ ys->pre.length=pre'.length->(c=0->xs.length=ys.length)->
   ρ 2= .bx (Ql t)->ρ 3= .bx (Ql u)->ρ 5= .int .i64 c->ρ 6= .int .i64 pre.length->
  R tb (.loop f30l0) ρ bs (Q1 0 (ZE tb f30r0 (Zn f30 bs)))=some (.int .i64 (or0 c (Yl xs ys)),bs):=by
 have hm2:=Z7 t;have hu2:=Z7 u;intro xs
 induction xs with
 | nil=>
  intro ys pre pre' c ρ hk hk' hp hc h2 h3 h5 h6;rw[Qo f30l0.eq_1];simp at hk;by_cases h0:c=0
  ·simp[h2,h3,h5,h6,h0,f30r0,hk,Yl,LL]
  ·simp[h2,h3,h5,h6,h0,f30r0,Yl,LL]
 | cons x xs IH=>
  intro ys pre pre' c ρ hk hk' hp hc h2 h3 h5 h6;rw[Qo f30l0.eq_1];by_cases h0:c=0
  ·obtain⟨y,ys',rfl⟩: ∃y ys',ys=y:: ys':=by
    have:=hc h0;cases ys with
    | nil=>simp at this
    | cons y ys'=>exact⟨y,ys',rfl⟩
   have hg:=ZM hk;have hg':=ZM hk';rw[<- hp]at hg';have hl:t.kids.length=pre.length+ (xs.length+1):=by rw[hk];simp
   have hlt: (pre.length:Int) < (t.kids.length:Int):=by omega
   have hym:y.mass < big:=by have:=Yp (x:=y) (ks:=u.kids) (by rw[hk'];simp);omega
   unfold big at hm hu;have hw1:=wr1 pre.length (by omega);simp[h2,h3,h5,h6,h0,hlt,hg,hg',hw1,ih x (by rw[hk];simp) y bs hym];rw[IH ys' (pre ++ [x]) (pre' ++ [y]) (Zq x y)] <;> first | omega | (simp[hk,hk',hp,h2,h3,Yl,Vt];done) | (intro _;have:=hc h0;simp at this;omega)
  ·simp[h2,h3,h5,h6,h0,f30r0,Yl,Un]
def call_Compare: ∀(t u:Tm) (bs:Qd),t.mass < big->u.mass < big->call tb 30 [.agg (Ql t),.agg (Ql u)] bs=some (.int .i64 (Zq t u),bs):=by
 refine Xg ?_;intro k n s ks ih u bs hm hu;have hloop:=TO (.mk k n s ks) u bs hm hu (fun x hx y bs hy=>ih x hx y bs (by have:=Yp hx;have:=Z7 (.mk k n s ks);simp at *;omega) hy) ks u.kids [] [] (hdT (.mk k n s ks) u);rw[zcc 30 rfl rfl,UF];have hsz:=Tf (.mk k n s ks) bs hm;have hsz':=Tf u bs hu;simp[f30C,hsz,hsz',Ri,OC];by_cases c1:sgn (Tm.mk k n s ks).nodes u.nodes=0 <;> by_cases c2:sgn k u.kind=0 <;> by_cases c3:Y0 n u.name=0 <;> by_cases c4:sgn s u.sort=0 <;>
  simp[c1,c2,c3,c4,Y7] <;> rw[hloop] <;> first | (simp[hdT,c1,c2,c3,c4,Vt,Un];done) | (simp[hdT,c1,c2,c3,c4,Sd,Vt,Un];omega) | skip
def Fh (t:Tm) (bs:Qd) (hm:t.mass < big) (ih: ∀x∈t.kids,∀bs,call tb 60 [.agg (Ql x)] bs=some (.int .i64 x.nodes,bs)):
  ∀(post pre:Qp) (ρ:Qq),t.kids=pre ++ post->ρ 1= .bx (Ql t)->ρ 4= .int .i64 pre.length->ρ 3= .int .i64 (1+QK pre:Nat)->
  R tb (.loop f60l0) ρ bs (Q1 0 (ZE tb f60r0 (Zn f60 bs)))=some (.int .i64 t.nodes,bs):=by
 have hm2:=Z7 t;have hn:=Y2 t.kids;unfold big at hm;intro post
 induction post with
 | nil=>
  intro pre ρ hk h1 h4 h3;rw[Qo f60l0.eq_1];simp at hk;simp[h1,h3,h4,<- hk,f60r0,UQ]
 | cons x post IH=>
  intro pre ρ hk h1 h4 h3;have hg:=ZM hk;have hl:=XA hk;have hnn:QK t.kids=QK pre+ (x.nodes+QK post):=by rw[hk,XH];simp[QK]
  have hw1:=wr1 pre.length (by omega);have hw2:IntKind.i64.wrap (1+ (QK pre:Int)+ (x.nodes:Int))=1+ (QK pre:Int)+ (x.nodes:Int):=Q2 (by omega) (by omega);have hlt:=XX hk;rw[Qo f60l0.eq_1];simp[h3,h1,h4,hg,hw1,hw2,hlt,ih x (by rw[hk];simp)];rw[IH (pre ++ [x])] <;> simp[h3,h1,h4,hk,XH,QK];omega
def Rh: ∀(t:Tm) (bs:Qd),t.mass < big->call tb 60 [.agg (Ql t)] bs=some (.int .i64 t.nodes,bs):=by
 refine Xg ?_;intro k n s ks ih bs hm;rw[zcc 60 rfl rfl];simp[f60C];refine Fh (.mk k n s ks) bs hm (fun x hx bs=>ih x hx bs ?_) ks [] _ ?_ ?_ ?_ ?_ <;> (try simp[QK]);have:=Yp hx;have:=Z7 (.mk k n s ks);simp at *;omega
def Lu (a b:Qp):Yb (a ++ b)=max (Yb a) (Yb b):=by
 induction a with
 | nil=>simp[Yb]
 | cons t ts ih=>simp[Yb,ih]
def Hr (t:Tm) (bs:Qd) (hm:t.mass < big) (ih: ∀x∈t.kids,∀bs,call tb 61 [.agg (Ql x)] bs=some (.int .i64 x.depth,bs)):
  ∀(post pre:Qp) (ρ:Qq),t.kids=pre ++ post->ρ 1= .bx (Ql t)->ρ 4= .int .i64 pre.length->ρ 3= .int .i64 (Yb pre:Nat)->
  R tb (.loop f61l0) ρ bs (Q1 0 (ZE tb f61r0 (Zn f61 bs)))=some (.int .i64 t.depth,bs):=by
 have hm2:=Z7 t;have hn:=W3 t.kids;have hn2:=Y2 t.kids;unfold big at hm;intro post
 induction post with
 | nil=>
  intro pre ρ hk h1 h4 h3;rw[Qo f61l0.eq_1];simp at hk;have hw2:IntKind.i64.wrap ((Yb pre:Int)+1)=(Yb pre:Int)+1:=Q2 (by omega) (by rw[<- hk];omega);simp[h1,h3,h4,hk,hw2,f61r0,Rq]
 | cons x post IH=>
  intro pre ρ hk h1 h4 h3;have hg:=ZM hk;have hl:=XA hk;have hw1:=wr1 pre.length (by omega);have hlt:=XX hk;rw[Qo f61l0.eq_1];simp[h3,h1,h4,hg,hw1,hlt,ih x (by rw[hk];simp)];rw[IH (pre ++ [x])] <;> simp[h3,h1,h4,hk,Lu,Yb];split <;> omega
def Hv: ∀(t:Tm) (bs:Qd),t.mass < big->call tb 61 [.agg (Ql t)] bs=some (.int .i64 t.depth,bs):=by
 refine Xg ?_;intro k n s ks ih bs hm;rw[zcc 61 rfl rfl];simp[f61C];refine Hr (.mk k n s ks) bs hm (fun x hx bs=>ih x hx bs ?_) ks [] _ ?_ ?_ ?_ ?_ <;> (try simp[Yb]);have:=Yp hx;have:=Z7 (.mk k n s ks);simp at *;omega
def J0 (a b:Int) (bs:Qd):call tb 91 [.int .i64 a,.int .i64 b] bs=some (.int .i64 (sgn a b),bs):=by
 rw[zcc 91 rfl rfl];simp[f91,f91C,sgn]
def Lq (t u:Tm) (bs:Qd) (hm:t.mass < big) (hu:u.mass < big)
  (ih: ∀x∈t.kids,∀y bs,y.mass < big->call tb 90 [.agg (Ql x),.agg (Ql y)] bs=some (.int .i64 (Zq x y),bs)):
  ∀(xs ys pre pre':Qp) (ρ:Qq),t.kids=pre ++ xs->u.kids=pre' ++ ys->pre.length=pre'.length->xs.length=ys.length->
   ρ 2= .bx (Ql t)->ρ 3= .bx (Ql u)->ρ 9= .int .i64 pre.length->
  R tb (.loop f90l0) ρ bs (Q1 0 (ZE tb f90r0 (Zn f90 bs)))=some (.int .i64 (Yl xs ys),bs):=by
 have hm2:=Z7 t;have hu2:=Z7 u;intro xs
 induction xs with
 | nil=>
  intro ys pre pre' ρ hk hk' hp hc h2 h3 h9;rw[Qo f90l0.eq_1];simp at hk;simp[h2,h3,h9,f90r0,hk,Yl]
 | cons x xs IH=>
  intro ys pre pre' ρ hk hk' hp hc h2 h3 h9;rw[Qo f90l0.eq_1];obtain⟨y,ys',rfl⟩: ∃y ys',ys=y:: ys':=by
   cases ys with
   | nil=>simp at hc
   | cons y ys'=>exact⟨y,ys',rfl⟩
  have hg:=ZM hk;have hg':=ZM hk';rw[<- hp]at hg';have hl:t.kids.length=pre.length+ (xs.length+1):=by rw[hk];simp
  have hlt: (pre.length:Int) < (t.kids.length:Int):=by omega
  have hym:y.mass < big:=by have:=Yp (x:=y) (ks:=u.kids) (by rw[hk'];simp);omega
  unfold big at hm hu;have hw1:=wr1 pre.length (by omega);by_cases h0:Zq x y=0
  ·simp[h2,h3,h9,h0,hlt,hg,hg',hw1,ih x (by rw[hk];simp) y bs hym];rw[IH ys' (pre ++ [x]) (pre' ++ [y])] <;> first | omega | (simp[hk,hk',hp,h0,h2,h3,Yl,Vt];done) | (simp at hc;omega)
  ·simp[h2,h3,h9,h0,hlt,hg,hg',hw1,ih x (by rw[hk];simp) y bs hym,Yl,Un]
def Lt: ∀(t u:Tm) (bs:Qd),t.mass < big->u.mass < big->call tb 90 [.agg (Ql t),.agg (Ql u)] bs=some (.int .i64 (Zq t u),bs):=by
 refine Xg ?_;intro k n s ks ih u bs hm hu;have hloop:=Lq (.mk k n s ks) u bs hm hu (fun x hx y bs hy=>ih x hx y bs (by have:=Yp hx;have:=Z7 (.mk k n s ks);simp at *;omega) hy) ks u.kids [] [];rw[zcc 90 rfl rfl,UF];have hsz:=Rh (.mk k n s ks) bs hm;have hsz':=Rh u bs hu;simp[f90C,hsz,hsz',J0];have b0:Y0 n u.name=if Op.bytesLess n u.name then -1 else if(Op.bytesLess n u.name || n == u.name)=false then 1 else 0:=by
  unfold Y0;cases Op.bytesLess n u.name <;> cases hh: (n == u.name) <;> simp
 generalize (n == u.name)=q at *;generalize Op.bytesLess n u.name=p at *;by_cases c1:sgn (Tm.mk k n s ks).nodes u.nodes=0 <;> by_cases c2:sgn k u.kind=0 <;> cases p <;> cases q <;> by_cases c4:sgn s u.sort=0 <;>
  by_cases c6:sgn ks.length u.kids.length=0 <;> simp[c1,c2,c4,c6,Y7,hdT,Vt,Un,b0]
 all_goals (rw[hloop] <;> (try simp) <;> (try (have:=Sd.1 c6;omega)))
def Fq (t u:Tm) (bs:Qd) (hm:t.mass < big) (hu:u.mass < big):call tb 89 [.agg (Ql t),.agg (Ql u)] bs=some (.bool (decide (Zq t u=0)),bs):=by
 rw[zcc 89 rfl rfl];simp[f89,f89C,Lt t u bs hm hu]
end Go.Am
namespace Go.Am
set_option maxRecDepth 20000
mutual
def Uf:Tm->Int->Int
 | .mk _ n _ ks,m=>if m<=0\/40 < n.length then -1 else Vy ks (m - 1)
def Vy:List Tm->Int->Int
 | [],m=>m
 | t:: ts,m=>if Uf t m < 0 then -1 else Vy ts (Uf t m)
end
mutual
theorem Mc: ∀(t:Tm) (m:Int),Uf t m= -1\/0<=Uf t m/\Uf t m+t.nodes<=m/\t.mass+1<=42*t.nodes
 | .mk k n s ks,m=>by
  simp only[Uf,Tm.nodes,Tm.mass];split
  ·exact .inl rfl
  ·rename_i h;rcases Mb ks (m - 1) (by omega)with h1 | h1
   ·exact .inl h1
   ·right;omega
theorem Mb: ∀(ts:List Tm) (m:Int),0<=m->Vy ts m= -1\/0<=Vy ts m/\Vy ts m+QK ts<=m/\Zs ts+ts.length<=42*QK ts
 | [],m,h=>by simp[Vy,QK,Zs];omega
 | t:: ts,m,h=>by
  simp only[Vy,QK,Zs,QO];split
  ·exact .inl rfl
  ·rename_i h0;rcases Mc t m with h1 | h1
   ·omega
   ·rcases Mb ts (Uf t m) (by omega)with h2 | h2
    ·exact .inl h2
    ·right;omega
end
def Ar (t:Tm) (bs:Qd) (m0:Int) (hm:m0 < 1000000) (ih: ∀x∈t.kids,∀(m:Int) bs,m < 1000000->call tb 102 [.agg (Ql x),.int .i64 m] bs=some (.int .i64 (Uf x m),bs)):
  ∀(post pre:Qp) (m:Int) (ρ:Qq),t.kids=pre ++ post->0<=m->m+pre.length<=m0->ρ 2= .bx (Ql t)->ρ 5= .int .i64 pre.length->ρ 1= .int .i64 m->
  R tb (.loop f102l0) ρ bs (Q1 0 (ZE tb f102r0 (Zn f102 bs)))=some (.int .i64 (Vy post m),bs):=by
 intro post
 induction post with
 | nil=>
  intro pre m ρ hk h0 hp h2 h5 h1;rw[Qo f102l0.eq_1];simp at hk;simp[h1,h2,h5,hk,f102r0,Vy]
 | cons x post IH=>
  intro pre m ρ hk h0 hp h2 h5 h1;have hg:=ZM hk;have hl:=XA hk;have hw1:=wr1 pre.length (by omega);have hlt:=XX hk;have hn:=UQ x;rw[Qo f102l0.eq_1];rcases Mc x m with hb | hb
  ·simp[h1,h2,h5,hg,hw1,hlt,ih x (by rw[hk];simp) m bs (by omega),hb,Vy]
  ·have hb0: ¬Uf x m < 0:=by omega
   simp[h1,h2,h5,hg,hw1,hlt,ih x (by rw[hk];simp) m bs (by omega),hb0,Vy];rw[IH (pre ++ [x]) (Uf x m)] <;> first | omega | (simp[h1,h2,h5,hk];done) | (simp;omega)
def J1: ∀(t:Tm) (m:Int) (bs:Qd),m < 1000000->call tb 102 [.agg (Ql t),.int .i64 m] bs=some (.int .i64 (Uf t m),bs):=by
 refine Xg ?_;intro k n s ks ih m bs hm;rw[zcc 102 rfl rfl];have hn: (40 < (n.length:Int))=(40 < n.length):=by rw[Xl];omega
 simp[f102C,Y7,hn,Uf];split
 ·rfl
 ·rename_i hc;have hw:IntKind.i64.wrap (m - 1)=m - 1:=Q2 (by omega) (by omega);refine Ar (.mk k n s ks) bs m hm (fun x hx=>ih x hx) ks [] (m - 1) _ ?_ ?_ ?_ ?_ ?_ ?_ <;> first | (simp[hw];done) | (simp;omega)
def few (l:Qp) (n:Nat) (m:Int):Bool:=decide (l.length<=n) && decide (0<=Vy l m)
def AR (l:Qp) (o:Bool) (bs:Qd) (hl:l.length < 1000000):
  ∀(post pre:Qp) (m:Int) (ρ:Qq),l=pre ++ post->0<=m->m < 1000000->ρ 0= .sl o 4 (Qz l)->ρ 7= .int .i64 pre.length->ρ 2= .int .i64 m->
  R tb (.loop f101l0) ρ bs (Q1 0 (ZE tb f101r0 (Zn f101 bs)))=some (.bool (decide (0<=Vy post m)),bs):=by
 intro post
 induction post with
 | nil=>
  intro pre m ρ hk h0 hm hr0 h7 h2;rw[Qo f101l0.eq_1];simp at hk;simp[hr0,h7,h2,hk,f101r0,Vy,h0]
 | cons x post IH=>
  intro pre m ρ hk h0 hm hr0 h7 h2;have hg:=ZM hk;have hl:=XA hk;have hw1:=wr1 pre.length (by omega);have hlt:=XX hk;rw[Qo f101l0.eq_1];rcases Mc x m with hb | hb
  ·simp[hr0,h7,h2,hg,hw1,hlt,J1 x m bs (by omega),hb,Vy]
  ·have hb0: ¬Uf x m < 0:=by omega
   simp[hr0,h7,h2,hg,hw1,hlt,J1 x m bs (by omega),hb0,Vy];rw[IH (pre ++ [x]) (Uf x m)] <;> first | omega | (simp[hr0,h7,h2,hk];done)
def Au (l:Qp) (o:Bool) (n:Nat) (m:Int) (bs:Qd) (hn:n < 1000000) (h0:0<=m) (hm:m < 1000000):
  call tb 101 [.sl o 4 (Qz l),.int .i64 n,.int .i64 m] bs=some (.bool (few l n m),bs):=by
 rw[zcc 101 rfl rfl];have e1: ((n:Int) < (l.length:Int))=(n < l.length):=by rw[Xl];omega
 simp[f101C,Y7,few];split
 ·have: ¬l.length<=n:=by omega
  simp[this]
 ·have:l.length<=n:=by omega
  rw[AR l false bs (by omega) l [] m] <;> simp[this,h0,hm]
end Go.Am
namespace Go.Am
set_option maxRecDepth 20000
def Wg (c:UInt8):Bool:=(97<=c.toNat && c.toNat<=122) || (65<=c.toNat && c.toNat<=90)
def Z4 (c:UInt8):Bool:=48<=c.toNat && c.toNat<=57
def WC (c:UInt8):ZW c=(Wg c || Z4 c || c.toNat == 95 || c.toNat == 35):=rfl
def Wx (m n:Nat): ((m:Int)<=(n:Int))=(m<=n):=by rw[Xl];omega
def X4 (c:UInt8) (bs:Qd):call tb 58 [.int .u8 c.toNat] bs=some (.bool (Wg c),bs):=by
 rw[zcc 58 rfl rfl];have e1: ((97:Int)<=(c.toNat:Int))=(97<=c.toNat):=Wx 97 _;have e2: ((c.toNat:Int)<=122)=(c.toNat<=122):=Wx _ 122;have e3: ((65:Int)<=(c.toNat:Int))=(65<=c.toNat):=Wx 65 _;have e4: ((c.toNat:Int)<=90)=(c.toNat<=90):=Wx _ 90;simp[f58,f58C,Wg,e1,e2,e3,e4]
def Vm (c:UInt8) (bs:Qd):call tb 59 [.int .u8 c.toNat] bs=some (.bool (Z4 c),bs):=by
 rw[zcc 59 rfl rfl];have e1: ((48:Int)<=(c.toNat:Int))=(48<=c.toNat):=Wx 48 _;have e2: ((c.toNat:Int)<=57)=(c.toNat<=57):=Wx _ 57;simp[f59,f59C,Z4,e1,e2]
def Po (n:Nat): ((n:Int)=95)=(n=95):=by rw[Xl];omega
def Pn (n:Nat): ((n:Int)=35)=(n=35):=by rw[Xl];omega
def Ud:=@Bool.or_eq_false_iff
def Jp (s:Qb) (bs:Qd) (hs:s.length < 4611686018427387904): ∀(post pre:Qb) (ρ:Qq),s=pre ++ post->ρ 0= .str s->ρ 3= .int .i64 pre.length->
  R tb (.loop f57l0) ρ bs (Q1 0 (ZE tb f57r0 (Zn f57 bs)))=some (.bool (post.all ZW),bs):=by
 intro post
 induction post with
 | nil=>
  intro pre ρ hk h0 h3;rw[Qo f57l0.eq_1];simp at hk;simp[h0,h3,hk,f57r0]
 | cons x post IH=>
  intro pre ρ hk h0 h3;have hg:=ZM hk;have hl:=XA hk;have hw1:=wr1 pre.length (by omega);have hlt:=XX hk;rw[Qo f57l0.eq_1];cases hp:ZW x
  ·rw[WC]at hp;simp only[Ud]at hp;obtain⟨⟨⟨p1,p2⟩,p3⟩,p4⟩:=hp;have p3': ¬x.toNat=95:=by simpa using p3
   have p4': ¬x.toNat=35:=by simpa using p4
   simp[h0,h3,hg,hw1,hlt,X4,Vm,p1,p2,p3',p4',Po,Pn,WC]
  ·simp[h0,h3,hg,hw1,hlt,X4,Vm,Po,Pn,WC,Y7];split
   ·rename_i hc;simp[WC,hc]at hp
   ·rw[IH (pre ++ [x])]
    ·simp[WC]at hp;simp[hp]
    ·simp[hk]
    ·simp[h0]
    ·simp
def Jv:=@Bool.and_eq_false_iff
def FQ {c:UInt8} (h:Wg c=true):Z4 c=false/\(c.toNat == 95)=false/\(c.toNat == 35)=false:=by
 simp only[Wg,XQ,Qi,Qm]at h;refine⟨?_,?_,?_⟩
 ·simp only[Z4,Jv,Wr];omega
 ·simp;omega
 ·simp;omega
def HG (c:UInt8) (r:Qb):Q4 (c:: r)=(decide (r.length < 24) && Wg c && (c:: r).all ZW):=by
 have hd: (decide (48<=c.toNat) && decide (c.toNat<=57))=Z4 c:=rfl;simp only[Q4,YG,hd,bne];cases hl:Wg c
 ·rw[WC,hl];cases Z4 c <;> cases (c.toNat == 95) <;> cases (c.toNat == 35) <;> simp
 ·obtain⟨h1,h2,h3⟩:=FQ hl;rw[WC,hl,h1,h2,h3];simp
def Pj (s:Qb) (bs:Qd) (hs:s.length < 4611686018427387904):call tb 57 [.str s] bs=some (.bool (Q4 s),bs):=by
 rw[zcc 57 rfl rfl];cases s with
 | nil=>simp[f57C,Q4]
 | cons c r=>
  have e1: (24 < (r.length:Int)+1)=¬(r.length < 24):=by rw[Xl];omega
  have e2: ((r.length:Int)+1=0)=False:=eq_false (by omega);rw[HG];by_cases h1:r.length < 24 <;> cases h2:Wg c <;>
  simp[f57C,X4,e1,e2,h1,h2,-List.all_cons];rw[Jp (c:: r) bs hs (c:: r) []] <;> (try simp)
end Go.Am
namespace Go.Am
set_option maxRecDepth 20000
def YZ: ∀a:Qb,Op.bytesLess a a=false
 | []=>rfl
 | c:: r=>by simp[Op.bytesLess,YZ r]
def MR (a:Qb):Y0 a a=0:=by simp[Y0,YZ]
def Qa1 (a:Int):sgn a a=0:=Sd.2 rfl
def A4 (t:Tm):hdT t t=0:=by simp[hdT,Qa1,MR,or0]
mutual
theorem Pu: ∀t:Tm,Zq t t=0
 | .mk k n s ks=>by rw[Zq,A4,Vt];exact MQ ks
theorem MQ: ∀ts:List Tm,Yl ts ts=0
 | []=>by simp[Yl]
 | t:: ts=>by rw[Yl,Pu t,Vt];exact MQ ts
end
def AU {l:Qp} {n:Nat} {m:Int} (h0:0<=m) (h:few l n m=true):l.length<=n/\Zs l+l.length<=42*m.toNat/\QK l<=m.toNat:=by
 simp only[few,Qi,Qm]at h;rcases Mb l m h0 with h1 | h1
 ·omega
 ·omega
end Go.Am
namespace Go.Am
set_option maxRecDepth 20000
structure Sy where
 n:List UInt8
 l:Int
 m:Int
 k:Int
def Qkz:List Sy:=[⟨[112,97,105,114],2,2,1⟩,⟨[101,110,99],2,2,1⟩,⟨[97,101,110,99],2,2,1⟩,⟨[112,107],1,1,1⟩,⟨[115,105,103,110],2,2,1⟩,⟨[104,97,115,104],1,1,1⟩,
 ⟨[120,111,114],2,8,1⟩,⟨[122,101,114,111],0,0,1⟩,⟨[101,120,112],2,2,1⟩,⟨[109,117,108],2,8,1⟩,⟨[105,110,118],1,1,1⟩,⟨[111,110,101],0,0,1⟩,
 ⟨[115,107],1,1,2⟩,⟨[115,104,107],2,2,2⟩,⟨[110,101,119],1,8,2⟩,⟨[102,115,116],1,1,3⟩,⟨[115,110,100],1,1,3⟩,⟨[100,101,99],2,2,3⟩,⟨[97,100,101,99],2,2,3⟩,⟨[111,112,101,110],2,2,3⟩,⟨[114,101,97,100],1,1,3⟩]
def CS (n:Qb):List Sy->Option Sy
 | []=>none
 | s:: ss=>if s.n=n then some s else CS n ss
end Go.Am
namespace Go.Am
set_option maxRecDepth 20000
def Qi9 (k:Tm):Bool:=k.kind == 3 || k.sort != 1
mutual
def Ax:Tm->Int
 | .mk k n _ ks=>if k≠3 then 0 else match CS n Qkz with
  | none=>10
  | some y=>if(ks.length:Int) < y.l\/y.m < ks.length then 6 else if(n=[115,107]\/n=[115,104,107])/\ks.any Qi9 then 10
   else if n=[110,101,119]/\ks.head?.map Tm.kind≠some 2 then 10 else Qg4 ks
def Qg4:List Tm->Int
 | []=>0
 | t:: ts=>if Ax t≠0 then Ax t else Qg4 ts
end
def thV (t:Tm):Int:=if QZ t≠0 then QZ t else Ax t
end Go.Am
namespace Go.Am
set_option maxRecDepth 20000
def Ue {α:Type} {l pre post:List α} {x:α} (h:l=pre ++ x:: post) (hb:l.length < 4611686018427387904):
  l[pre.length]? =some x/\IntKind.i64.wrap ((pre.length:Int)+1)=(pre.length:Int)+1/\(pre.length:Int) < (l.length:Int)/\x∈l:=by
 have hl:l.length=pre.length+ (post.length+1):=by rw[h];simp
 exact⟨ZM h,Q2 (by omega) (by omega),by omega,by rw[h];simp⟩
def C3 {t:Tm} (h:t.mass < big):t.kids.length < 4611686018427387904:=by
 have:=Z7 t;unfold big at h;omega
def Qag {t x:Tm} (h:t.mass < big) (hx:x∈t.kids):x.mass < big:=by
 have:=Yp hx;have:=Z7 t;omega
def VL:=@Bool.eq_false_or_eq_true
def Fr (t:Tm) (bs:Qd) (hm:t.mass < big):call tb 56 [.agg (Ql t)] bs=some (.int .i64 (Vq t),bs):=by
 rw[zcc 56 rfl rfl];have hn:=Pj t.name bs (by have:=Z7 t;unfold big at hm;omega);have hks: ((8:Int) < t.kids.length)=(8 < t.kids.length):=by rw[Xl];omega
 obtain⟨k,n,s,ks⟩:=t;simp at hn hks;unfold Vq;simp only[Vo,Vp,Wh,Xr];by_cases k1:k=1
 ·subst k1;simp[f56C,Ql,hn,hks];rcases VL (Q4 n)with c4 | c4 <;> by_cases c1:s < 0 <;> by_cases c2:5 < s <;> by_cases c3:0 < ks.length <;> simp[c1,c2,c3,c4] <;> omega
 by_cases k2:k=2
 ·subst k2;simp[f56C,Ql,hn,hks];rcases VL (Q4 n)with c4 | c4 <;> by_cases c1:s < 0 <;> by_cases c2:5 < s <;> by_cases c3:0 < ks.length <;> simp[c1,c2,c3,c4] <;> omega
 by_cases k3:k=3
 ·subst k3;simp[f56C,Ql,hn,hks];rcases VL (Q4 n)with c4 | c4 <;> by_cases c1:s < 0 <;> by_cases c2:5 < s <;> by_cases c3:s=0 <;> simp[c1,c2,c3,c4] <;> omega
 ·simp[f56C,Ql,hn,hks,k1,k2,k3]
def Hs (t:Tm) (bs:Qd) (hm:t.mass < big) (ih: ∀x∈t.kids,∀bs,call tb 55 [.agg (Ql x)] bs=some (.int .i64 (Yh x),bs)):
  ∀(post pre:Qp) (ρ:Qq),t.kids=pre ++ post->ρ 1= .bx (Ql t)->ρ 4= .int .i64 pre.length->
  R tb (.loop f55l0) ρ bs (Q1 0 (ZE tb f55r0 (Zn f55 bs)))=some (.int .i64 (Xd post),bs):=by
 intro post
 induction post with
 | nil=>
  intro pre ρ hk h1 h4;rw[Qo f55l0.eq_1];simp at hk;simp[h1,h4,<- hk,f55r0,Xd]
 | cons x post IH=>
  intro pre ρ hk h1 h4;obtain⟨hg,hw,hlt,hx⟩:=Ue hk (C3 hm);have hh:=ih x hx bs;rw[Qo f55l0.eq_1];by_cases he:Yh x=0
  ·simp[h1,h4,hg,hw,hlt,hh,he,Xd];rw[IH (pre ++ [x])] <;> simp[h1,hk]
  ·simp[h1,h4,hg,hw,hlt,hh,he,Xd]
def Hw: ∀(t:Tm) (bs:Qd),t.mass < big->call tb 55 [.agg (Ql t)] bs=some (.int .i64 (Yh t),bs):=by
 refine Xg ?_;intro k n s ks ih bs hm;have hl:=Hs (.mk k n s ks) bs hm (fun x hx bs=>ih x hx bs (Qag hm hx)) ks [];have hn:=Fr (.mk k n s ks) bs hm;rw[zcc 55 rfl rfl];by_cases he:Vq (.mk k n s ks)=0
 ·simp[f55C,hn,he,Yh];rw[hl] <;> simp
 ·simp[f55C,hn,he,Yh]
def Pk (t:Tm) (bs:Qd) (hm:t.mass < big):call tb 54 [.agg (Ql t)] bs=some (.int .i64 (QZ t),bs):=by
 have h1:=Hw t bs hm;have h2:=Rh t bs hm;have h3:=Hv t bs hm;rw[zcc 54 rfl rfl];have e1: (400 < (t.nodes:Int))=(400 < t.nodes):=by rw[Xl];omega
 have e2: (40 < (t.depth:Int))=(40 < t.depth):=by rw[Xl];omega
 simp[f54C,h1,h2,h3,e1,e2,QZ];by_cases he:Yh t=0 <;> by_cases c1:400 < t.nodes <;> by_cases c2:40 < t.depth <;> simp[he,c1,c2]
end Go.Am
namespace Go.Am
set_option maxRecDepth 20000
def JU: ∀{a b:Qb},Y0 a b=0->a=b:=by
 intro a b h;unfold Y0 at h;split at h
 ·simp at h
 ·split at h
  ·rename_i h2;exact XL.1 h2
  ·simp at h
mutual
theorem T4: ∀(t u:Tm),Zq t u=0->t=u
 | .mk k n s ks,.mk k' n' s' ks',h=>by
  rw[UF,UT]at h;obtain⟨h1,h2⟩:=h;unfold hdT at h1;simp only[UT,Sd,Vo,Wh,Vp,Xr]at h1 h2;obtain⟨_,h3,h4,h5,h6⟩:=h1;have e1:=JU h4;have e2:=J6 ks ks' (by omega) h2;rw[h3,e1,h5,e2]
theorem J6: ∀(ts us:List Tm),ts.length=us.length->Yl ts us=0->ts=us
 | [],[],_,_=>rfl
 | [],_:: _,h,_=>by simp at h
 | _:: _,[],h,_=>by simp at h
 | t:: ts,u:: us,h,h2=>by
  rw[Yl,UT]at h2;rw[T4 t u h2.1,J6 ts us (by simpa using h) h2.2]
end
def Uy (acc:Nat) (l:Qb):Nat:=l.foldl (fun a c=>a*10+ (c.toNat - 48)) acc
def Hq (acc:Nat):Uy acc []=acc:=rfl
def Tn (acc:Nat) (c:UInt8) (r:Qb):Uy acc (c:: r)=Uy (acc*10+ (c.toNat - 48)) r:=by simp only[Uy,List.foldl_cons]
def Qba (a b:Qb) (acc:Nat):Uy acc (a ++ b)=Uy (Uy acc a) b:=by simp[Uy]
def MH: ∀(a:Qb) (acc:Nat),acc<=Uy acc a
 | [],_=>Za _
 | c:: r,acc=>by have:=MH r (acc*10+ (c.toNat - 48));rw[Tn];omega
def Og {n:Nat} (h:n < 10): (48+n).toUInt8.toNat=48+n:=by
 have: ∀n:Fin 10,(48+n.val).toUInt8.toNat=48+n.val:=by decide
 exact this ⟨n,h⟩
def Gp {c:UInt8} {n:Nat} (hc:c.toNat=48+n) (h:n < 10):Z4 c=true:=by
 simp only[Z4,hc,Qi,Qm];omega
def Rn: ∀n:Nat,Uy 0 (Yt n)=n/\(Yt n).all Z4=true/\Yt n≠[]:=by
 intro n
 induction n using Nat.strongRecOn with
 | ind n ih=>
  by_cases h:n < 10
  ·rw[Ug h];have hd:=Og h;generalize (48+n).toUInt8=c at *;refine⟨?_,?_,by simp⟩
   ·simp only[Tn,Hq,hd];omega
   ·simp only[YG,List.all_nil,Wf];exact Gp hd h
  ·obtain⟨h1,h2,h3⟩:=ih (n / 10) (by omega);have hd:=Og (n:=n % 10) (by omega);rw[Tx h];generalize (48+n % 10).toUInt8=c at *;refine⟨?_,?_,by simp⟩
   ·rw[Qba,h1];simp only[Tn,Hq,hd];omega
   ·rw[W0,h2];simp only[YG,List.all_nil,Wf,We];exact Gp hd (by omega)
def Mh (s p:Qb) (bs:Qd) (hs:s.length < 4611686018427387904) (hp:p.length < 4611686018427387904):
  call tb 75 [.str s,.str p] bs=some (.bool (decide (p.length<=s.length) && s.take p.length == p),bs):=by
 rw[zcc 75 rfl rfl];have e1: ((p.length:Int)<=(s.length:Int))=(p.length<=s.length):=Wx _ _;by_cases h:p.length<=s.length <;> simp[f75,f75C,e1,h]
def B9 {n:Int} (h:0<=n/\n < 256):IntKind.u8.wrap n=n:=by
 simp[IntKind.wrap,IntKind.bits,IntKind.signed];omega
end Go.Am
namespace Go.Am
set_option maxRecDepth 20000
def isB (t:Tm) (n:Qb):Bool:=decide (t.kind=3) && (t.name == n)
end Go.Am
namespace Go.Am
set_option maxRecDepth 20000
def Ty: ∀(k n:Nat),n < 10 ^ (k+1)->(Yt n).length<=k+1
 | 0,n,h=>by rw[Ug (by simpa using h)];simp
 | k+1,n,h=>by
  by_cases h0:n < 10
  ·rw[Ug h0];simp
  ·rw[Tx h0,Zf];have:=Ty k (n / 10) (by rw[Nat.pow_succ]at h;omega);simp;omega
end Go.Am
