/-
  Am21, Am22, Am23, Ge1, Ge2, Ge3, Ge4, Ge5, Ge6, Ge10, Ge11, Ge12.
-/
import Derived.Test.YthagbooipdejlaaGreatDoorG10
import Derived.Test.YthagbooipdejlaaGreatDoorG14
set_option linter.all false
open Go.Am.F
namespace Go.Am
abbrev Out:=Option (AV×List (List AV))
abbrev Kn:=Ex->St->Out
section
variable {T:Nat->Option AFn}
noncomputable def R (T:Vs) (c:AC) (ρ:Ql) (bs:Qa) (k:Kn):Out:=match run T c ⟨ρ,bs⟩with
 | some (e,s)=>k e s
 | none=>none
noncomputable def O (T:Vs) (os:Yo) (ρ:Ql) (bs:Qa) (k:Kn):Out:=match Yc (call T) os ⟨ρ,bs⟩with
 | some s=>k .normal s
 | none=>none
noncomputable def E (T:Vs) (r:Option (AV×St)) (d:YN) (os:Yo) (k:Kn):Out:=match r with
 | some p=>O T os (YI p.2.env d p.1) p.2.bs k
 | none=>none
def XI (c b:Bool) (x y:Out):Out:=if c=b then x else y
noncomputable def QI (T:Vs) (b:AC) (k:Kn):Kn:=fun e s=>match e with
 | .normal=>match run T b s with
  | some (e,s)=>k e s
  | none=>none
 | e=>k e s
def Qq (id:Nat) (k:Kn):Kn:=fun e s=>match e with
 | .exit i=>k (if i=id then .normal else .exit i) s
 | e=>k e s
def QK (fn:Zi) (n:Qa):Kn:=fun e s=>match e with
 | .normal=>Xw fn n s
 | .ret=>Xw fn n s
 | .exit _=>none
def Lj (x y:Out):XI true true x y=x:=rfl
def Hp (x y:Out):XI false false x y=x:=rfl
def Hq (x y:Out):XI true false x y=y:=rfl
def Li (x y:Out):XI false true x y=y:=rfl
def CO (c b:Bool) (x:Out):XI c b x x=x:=by unfold XI;split <;> rfl
def Qaz (c b:Bool) (x y:Out):XI (!c) b x y=XI c (!b) x y:=by cases c <;> cases b <;> rfl
def WL (c b:Bool) (x y:Out):XI c b x y=if c=b then x else y:=rfl
def Qnt (ρ:Ql) (bs:Qa) (k:Kn):R T .skip ρ bs k=k .normal ⟨ρ,bs⟩:=by simp only[R,D7]
def Qpk (ρ:Ql) (bs:Qa) (k:Kn):R T .ret ρ bs k=k .ret ⟨ρ,bs⟩:=by simp only[R,Ap]
def Qnr (id:Nat) (ρ:Ql) (bs:Qa) (k:Kn):R T (.exit id) ρ bs k=k (.exit id) ⟨ρ,bs⟩:=by simp only[R,D4]
def Qpj (d:Bool) (ops:Yo) (ρ:Ql) (bs:Qa) (k:Kn):R T (.reg d ops) ρ bs k=O T ops ρ bs k:=by
 simp only[R,O,Ao];cases Yc (call T) ops ⟨ρ,bs⟩ <;> rfl
def Qpl (a b:AC) (ρ:Ql) (bs:Qa) (k:Kn):R T (.seq a b) ρ bs k=R T a ρ bs (QI T b k):=by
 simp only[R,Aq];cases run T a ⟨ρ,bs⟩with
 | none=>rfl
 | some x=>
  obtain⟨e,s⟩:=x;cases e <;> rfl
def Qhx (id:Nat) (c:AC) (ρ:Ql) (bs:Qa) (k:Kn):R T (.block id c) ρ bs k=R T c ρ bs (Qq id k):=by
 simp only[R,HC];cases run T c ⟨ρ,bs⟩with
 | none=>rfl
 | some x=>
  obtain⟨e,s⟩:=x;cases e <;> rfl
def Qns (c:AC) (ρ:Ql) (bs:Qa) (k:Kn):R T (.loop c) ρ bs k=R T c ρ bs (QI T (.loop c) k):=by
 simp only[R];rw[D6];cases run T c ⟨ρ,bs⟩with
 | none=>rfl
 | some x=>
  obtain⟨e,s⟩:=x;cases e <;> rfl
def C6 (b:AC) (k:Kn) (ρ:Ql) (bs:Qa):QI T b k .normal ⟨ρ,bs⟩=R T b ρ bs k:=rfl
def QgK (b:AC) (k:Kn) (s:St):QI T b k .ret s=k .ret s:=rfl
def QeA (b:AC) (k:Kn) (s:St) (id:Nat):QI T b k (.exit id) s=k (.exit id) s:=rfl
def HO (id:Nat) (k:Kn) (s:St):Qq id k .normal s=k .normal s:=rfl
def A6 (id:Nat) (k:Kn) (s:St):Qq id k .ret s=k .ret s:=rfl
def Cu (id:Nat) (k:Kn) (s:St):Qq id k (.exit id) s=k .normal s:=by simp[Qq]
def OU (id i:Nat) (h: (i == id)=false) (k:Kn) (s:St):Qq id k (.exit i) s=k (.exit i) s:=by
 have:i≠id:=by simpa using h
 simp[Qq,this]
def CJ (fn:Zi) (k:Qa) (s:St):QK fn k .normal s=Xw fn k s:=rfl
def QfO (fn:Zi) (k:Qa) (s:St):QK fn k .ret s=Xw fn k s:=rfl
noncomputable def Qam (T:Vs) (v:AV) (n:Nat) (a b:AC) (ρ:Ql) (bs:Qa) (k:Kn):Out:=match v with
 | .bool c=>XI c true (R T a (upd ρ n (.bool true)) bs k) (R T b (upd ρ n (.bool false)) bs k)
 | _=>none
def Uj {ρ:Ql} {n:Nat} {v:AV} (h:ρ n=v):upd ρ n v=ρ:=by
 funext j;unfold upd;split
 ·rename_i hj;rw[hj,h]
 ·rfl
def Qnq (n:Nat) (a b:AC) (ρ:Ql) (bs:Qa) (k:Kn):R T (.cond (.t n) a b) ρ bs k=Qam T (ρ n) n a b ρ bs k:=by
 simp only[R,D0,val,Qam];cases h:ρ n <;> try rfl
 rename_i c;cases c
 ·simp only[AV.strip,Li,Uj h]
 ·simp only[AV.strip,Lj,Uj h]
def Qan (c:Bool) (n:Nat) (a b:AC) (ρ:Ql) (bs:Qa) (k:Kn):
  Qam T (.bool c) n a b ρ bs k=XI c true (R T a (upd ρ n (.bool true)) bs k) (R T b (upd ρ n (.bool false)) bs k):=rfl
def QoY (ρ:Ql) (bs:Qa) (k:Kn):O T [] ρ bs k=k .normal ⟨ρ,bs⟩:=rfl
def QkI (d:YN) (op:AOp) (os:Yo) (ρ:Ql) (bs:Qa) (k:Kn):
  O T (⟨d,op,none⟩:: os) ρ bs k=E T (Qj (call T) op ⟨ρ,bs⟩) d os k:=by
 simp only[O,E,Yc,Z7];cases Qj (call T) op ⟨ρ,bs⟩ <;> rfl
noncomputable def JH (T:Vs) (v:AV) (t:Nat) (b:Bool) (d:YN) (op:AOp) (os:Yo) (ρ:Ql) (bs:Qa) (k:Kn):Out:=match v with
 | .bool c=>XI c b (E T (Qj (call T) op ⟨upd ρ t (.bool b),bs⟩) d os k) (O T os (YI (upd ρ t (.bool (!b))) d (.tup [])) bs k)
 | .tup []=>O T os (YI ρ d (.tup [])) bs k
 | _=>none
def Uo (d:YN) (op:AOp) (t:Nat) (b:Bool) (os:Yo) (ρ:Ql) (bs:Qa) (k:Kn):
  O T (⟨d,op,some (t,b)⟩:: os) ρ bs k=JH T (ρ t) t b d op os ρ bs k:=by
 simp only[O,Yc,Z7,JH];cases h:ρ t <;> try rfl
 ·rename_i c;by_cases hcb:c=b
  ·subst hcb;simp only[XI,Zd,Uj h,E];cases Qj (call T) op ⟨ρ,bs⟩ <;> rfl
  ·have hcb2:c= !b:=by cases c <;> cases b <;> simp_all
   subst hcb2;simp only[XI,hcb,Zp,Uj h];rfl
 ·rename_i vs;cases vs <;> rfl
def UK (c:Bool) (t:Nat) (b:Bool) (d:YN) (op:AOp) (os:Yo) (ρ:Ql) (bs:Qa) (k:Kn):
  JH T (.bool c) t b d op os ρ bs k=XI c b (E T (Qj (call T) op ⟨upd ρ t (.bool b),bs⟩) d os k) (O T os (YI (upd ρ t (.bool (!b))) d (.tup [])) bs k):=rfl
def JI (t:Nat) (b:Bool) (d:YN) (op:AOp) (os:Yo) (ρ:Ql) (bs:Qa) (k:Kn):
  JH T (.tup []) t b d op os ρ bs k=O T os (YI ρ d (.tup [])) bs k:=rfl
def QkF (v:AV) (ρ:Ql) (bs:Qa) (d:Nat) (os:Yo) (k:Kn):E T (some (v,⟨ρ,bs⟩)) (some d) os k=O T os (upd ρ d v) bs k:=rfl
def Qhs (v:AV) (ρ:Ql) (bs:Qa) (os:Yo) (k:Kn):E T (some (v,⟨ρ,bs⟩)) none os k=O T os ρ bs k:=rfl
def QkE (d:YN) (os:Yo) (k:Kn):E T none d os k=none:=rfl
def QeC (ρ:Ql) (d:Nat) (v:AV):YI ρ (some d) v=upd ρ d v:=rfl
def QeB (ρ:Ql) (v:AV):YI ρ none v=ρ:=rfl
def P4 {f:Nat} {fn:Zi} (h:T f=some (.code fn)) (args:Qh) (bs:Qa) (hl:args.length=fn.nparams):
  call T f args bs=R T fn.body (XG args) bs (QK fn bs):=by
 rw[Iw,h];simp only[hl,Zd,R];cases run T fn.body ⟨XG args,bs⟩with
 | none=>rfl
 | some x=>
  obtain⟨e,s⟩:=x;cases e <;> rfl
def Wy {f:Nat} {g:Qh->Qa->Option (AV×Qa)} (h:T f=some (.orc g)) (args:Qh) (bs:Qa):call T f args bs=g args bs:=by
 rw[Iw,h]
def Qe8 (a:AV) (aq:Qh):XG (a:: aq) 0=a.strip:=rfl
def Ct (a:AV) (aq:Qh) (i:Nat):XG (a:: aq) (i+1)=XG aq i:=rfl
def Td (ρ:Ql) (i:Nat) (v:AV):upd ρ i v i=v:=by simp[upd]
variable {K:Ys} (ρ:Nat->AV) (bs:List (List AV))
def Qql (n:Nat):val ρ (.t n)=(ρ n).strip:=rfl
def Qqk (v:AV):val ρ (.c v)=v:=rfl
end
end Go.Am
namespace Go.Am
section
variable {T:Nat->Option AFn}
def PG (b:Bool):AV->Bool
 | .bool c=>c == !b
 | .tup []=>true
 | _=>false
noncomputable def O2 (T:Vs) (c:Bool) (_t:Nat) (b:Bool) (os:Yo) (ρ1 ρ2:Ql) (bs1 bs2:Qa) (k:Kn):Out:=
 if c=b then O T os ρ1 bs1 k else O T os ρ2 bs2 k
noncomputable def E2 (T:Vs) (c:Bool) (_t:Nat) (b:Bool) (r:Option (AV×St)) (d:YN) (os:Yo) (ρ2:Ql) (bs2:Qa) (k:Kn):Out:=
 if c=b then E T r d os k else O T os (YI ρ2 d (.tup [])) bs2 k
def YH (c b:Bool) (x y:AV):AV:=if c=b then x else y
def KE (c b:Bool) (x y:Qa):Qa:=if c=b then x else y
def mrg (c b:Bool) (ρ1 ρ2:Ql):Ql:=fun j=>YH c b (ρ1 j) (ρ2 j)
def QjJ (c b:Bool) (ρ1 ρ2:Ql) (j:Nat):mrg c b ρ1 ρ2 j=YH c b (ρ1 j) (ρ2 j):=rfl
def Bd (c:Bool) (t:Nat) (b:Bool) (os:Yo) (ρ1 ρ2:Ql) (bs1 bs2:Qa) (k:Kn):
  O2 T c t b os ρ1 ρ2 bs1 bs2 k=O T os (mrg c b ρ1 ρ2) (KE c b bs1 bs2) k:=by
 unfold O2;split
 ·rename_i h;have:mrg c b ρ1 ρ2=ρ1:=by funext j;simp[mrg,YH,h]
  rw[this,KE,Qn h]
 ·rename_i h;have:mrg c b ρ1 ρ2=ρ2:=by funext j;simp[mrg,YH,h]
  rw[this,KE,Qm h]
def QkH (c:Bool) (t:Nat) (b:Bool) (ρ1 ρ2:Ql) (bs1 bs2:Qa) (k:Kn):
  O2 T c t b [] ρ1 ρ2 bs1 bs2 k=O T [] (mrg c b ρ1 ρ2) (KE c b bs1 bs2) k:=Bd c t b [] ρ1 ρ2 bs1 bs2 k
def Qhu (c:Bool) (t:Nat) (b:Bool) (d:YN) (op:AOp) (os:Yo) (ρ1 ρ2:Ql) (bs1 bs2:Qa) (k:Kn):
  O2 T c t b (⟨d,op,none⟩:: os) ρ1 ρ2 bs1 bs2 k=O T (⟨d,op,none⟩:: os) (mrg c b ρ1 ρ2) (KE c b bs1 bs2) k:=Bd c t b _ ρ1 ρ2 bs1 bs2 k
def QeY (c:Bool) (t:Nat) (b:Bool) (d:YN) (op:AOp) (t':Nat) (b':Bool) (os:Yo) (ρ1 ρ2:Ql) (bs1 bs2:Qa) (k:Kn) (_h: ((t' == t) && (b' == b))=false):
  O2 T c t b (⟨d,op,some (t',b')⟩:: os) ρ1 ρ2 bs1 bs2 k=XI c b (O T (⟨d,op,some (t',b')⟩:: os) ρ1 bs1 k) (O T (⟨d,op,some (t',b')⟩:: os) ρ2 bs2 k):=by
 unfold O2 XI;rfl
def Qhv (c:Bool) (t:Nat) (b:Bool) (d:YN) (op:AOp) (os:Yo) (ρ1 ρ2:Ql) (bs1 bs2:Qa) (k:Kn) (h1:ρ1 t= .bool b) (h2:PG b (ρ2 t)=true):
  O2 T c t b (⟨d,op,some (t,b)⟩:: os) ρ1 ρ2 bs1 bs2 k=E2 T c t b (Qj (call T) op ⟨ρ1,bs1⟩) d os ρ2 bs2 k:=by
 unfold O2 E2;split
 ·rw[Uo,h1,UK,WL,Qn rfl,Uj h1]
 ·rw[Uo];unfold PG at h2;split at h2
  ·rename_i c hc;rw[hc,UK];simp only[Uc]at h2;subst h2;rw[WL,Qm (by cases b <;> simp),Uj hc]
  ·rename_i hc;rw[hc,JI]
  ·cases h2
def Qhr (c:Bool) (t:Nat) (b:Bool) (v:AV) (ρ1:Ql) (bs1:Qa) (d:YN) (os:Yo) (ρ2:Ql) (bs2:Qa) (k:Kn):
  E2 T c t b (some (v,⟨ρ1,bs1⟩)) d os ρ2 bs2 k=O2 T c t b os (YI ρ1 d v) (YI ρ2 d (.tup [])) bs1 bs2 k:=rfl
noncomputable def G (T:Vs) (v:AV) (d:YN) (op:AOp) (t:Nat) (b:Bool) (os:Yo) (ρ:Ql) (bs:Qa) (k:Kn):Out:=match v with
 | .bool c=>O2 T c t b (⟨d,op,some (t,b)⟩:: os) (upd ρ t (.bool b)) (upd ρ t (.bool (!b))) bs bs k
 | .tup []=>O T os (YI (upd ρ t (.tup [])) d (.tup [])) bs k
 | _=>none
def Oz (c:Bool) (d:YN) (op:AOp) (t:Nat) (b:Bool) (os:Yo) (ρ:Ql) (bs:Qa) (k:Kn):
  G T (.bool c) d op t b os ρ bs k=O2 T c t b (⟨d,op,some (t,b)⟩:: os) (upd ρ t (.bool b)) (upd ρ t (.bool (!b))) bs bs k:=rfl
def Qg1 (d:YN) (op:AOp) (t:Nat) (b:Bool) (os:Yo) (ρ:Ql) (bs:Qa) (k:Kn):
  G T (.tup []) d op t b os ρ bs k=O T os (YI (upd ρ t (.tup [])) d (.tup [])) bs k:=rfl
def Qhw (d:YN) (op:AOp) (t:Nat) (b:Bool) (os:Yo) (ρ:Ql) (bs:Qa) (k:Kn):
  O T (⟨d,op,some (t,b)⟩:: os) ρ bs k=G T (ρ t) d op t b os ρ bs k:=by
 cases h:ρ t <;> try (rw[Uo,h];rfl)
 ·rename_i c;rw[Oz];unfold O2;by_cases hcb:c=b
  ·subst hcb;simp[Uj h]
  ·have hcb2:c= !b:=by cases c <;> cases b <;> simp_all
   subst hcb2;rw[Uj h,Qm hcb]
 ·rename_i vs;cases vs with
  | nil=>rw[Qg1,Uo,h,JI,Uj h]
  | cons v vs=>rw[Uo,h];rfl
def QkG (d:YN) (op:AOp) (t:Nat) (os:Yo) (ρ:Ql) (bs:Qa) (k:Kn):
  G T (.bool true) d op t true os ρ bs k=E T (Qj (call T) op ⟨upd ρ t (.bool true),bs⟩) d os k:=by
 rw[Oz];unfold O2;rw[Qn rfl,Uo,Td,UK,Lj,Uj (Td _ _ _)]
def Qht (d:YN) (op:AOp) (t:Nat) (os:Yo) (ρ:Ql) (bs:Qa) (k:Kn):
  G T (.bool false) d op t false os ρ bs k=E T (Qj (call T) op ⟨upd ρ t (.bool false),bs⟩) d os k:=by
 rw[Oz];unfold O2;rw[Qn rfl,Uo,Td,UK,Hp,Uj (Td _ _ _)]
def Qqu (d:YN) (op:AOp) (t:Nat) (os:Yo) (ρ:Ql) (bs:Qa) (k:Kn):
  G T (.bool true) d op t false os ρ bs k=O T os (YI (upd ρ t (.bool true)) d (.tup [])) bs k:=by
 rw[Oz];unfold O2;rw[Qm (by simp),Uo,Td];simp only[UK,Hq,Bool.not_false];rw[Uj (Td _ _ _)]
def Qqt (d:YN) (op:AOp) (t:Nat) (os:Yo) (ρ:Ql) (bs:Qa) (k:Kn):
  G T (.bool false) d op t true os ρ bs k=O T os (YI (upd ρ t (.bool false)) d (.tup [])) bs k:=by
 rw[Oz];unfold O2;rw[Qm (by simp),Uo,Td];simp only[UK,Li,OR];rw[Uj (Td _ _ _)]
def Qex (c b:Bool) (x:AV):YH c b x x=x:=by unfold YH;split <;> rfl
def Qeu (c b:Bool) (x:Qa):KE c b x x=x:=by unfold KE;split <;> rfl
def QoO (c b:Bool) (x y z:AV):YH c b (YH c b x y) z=YH c b x z:=by unfold YH;split <;> simp_all
def QoP (c b:Bool) (x y z:AV):YH c b x (YH c b y z)=YH c b x z:=by unfold YH;split <;> simp_all
def Qkj (c:Bool) (x y z:AV):YH c true (YH c false x y) z=YH c true y z:=by cases c <;> rfl
def Qkk (c:Bool) (x y z:AV):YH c true x (YH c false y z)=YH c true x y:=by cases c <;> rfl
def Qkg (c:Bool) (x y z:AV):YH c false (YH c true x y) z=YH c false y z:=by cases c <;> rfl
def Qkh (c:Bool) (x y z:AV):YH c false x (YH c true y z)=YH c false x y:=by cases c <;> rfl
def Qez (c:Bool) (x y:AV):YH c false x y=YH c true y x:=by cases c <;> rfl
def QgI (x y:AV):YH true true x y=x:=rfl
def Qew (x y:AV):YH false true x y=y:=rfl
def Qev (c x y:Bool):YH c true (.bool x) (.bool y)= .bool (bif c then x else y):=by cases c <;> rfl
def QgH (c:Bool) (k:IntKind) (x y:Int):YH c true (.int k x) (.int k y)= .int k (bif c then x else y):=by cases c <;> rfl
def Qbe (c b:Bool) (x y:AV): (YH c b x y).strip=YH c b x.strip y.strip:=by unfold YH;split <;> rfl
def Qki (c b:Bool) (x y:AV): (YH c b x y).ok=if c=b then x.ok else y.ok:=by unfold YH;split <;> rfl
def QgJ (c b:Bool) (x y:AV): (YH c b x y).one=if c=b then x.one else y.one:=by unfold YH;split <;> rfl
def Qey (c b d:Bool) (x y:AV):PG d (YH c b x y)=if c=b then PG d x else PG d y:=by unfold YH;split <;> rfl
def CS (c b:Bool):PG b (.bool c)=(c == !b):=rfl
def QaD (b:Bool):PG b (.tup [])=true:=rfl
def QaS (v x y:AV) (s:St):Option (AV×St):=match v with
 | .bool c=>let v:=YH c true x y;if v.ok then some (v,s)else none
 | _=>none
def QnQ {K:Ys} (c a b:AO) (ρ:Ql) (bs:Qa):Qj K (.pick c a b) ⟨ρ,bs⟩=QaS (val ρ c) (val ρ a) (val ρ b) ⟨ρ,bs⟩:=by
 simp only[Qj,QaS];cases val ρ c <;> try rfl
 rename_i x;cases x <;> rfl
def QaT (c:Bool) (x y:AV) (s:St):QaS (.bool c) x y s=if(YH c true x y).ok then some (YH c true x y,s)else none:=rfl
end
end Go.Am
namespace Go.Am
def Qkx (ρ:Ql) (i:Nat) (v:AV) (j:Nat):upd ρ i v j=if j=i then v else ρ j:=rfl
def H6:AV.strip (.undef)= .undef:=rfl
def Qa5:AV.ok (.undef)=false:=rfl
def CZ:AV.one (.undef)=false:=rfl
def CY:AV.gpfree (.undef)=true:=rfl
def C2 (k:IntKind) (n:Int):AV.strip (.int k n)= .int k n:=rfl
def Qgx (k:IntKind) (n:Int):AV.ok (.int k n)=true:=rfl
def Qeq (k:IntKind) (n:Int):AV.one (.int k n)=true:=rfl
def Qeh (k:IntKind) (n:Int):AV.gpfree (.int k n)=true:=rfl
def D9 (b:Bool):AV.strip (.bool b)= .bool b:=rfl
def Qem (b:Bool):AV.ok (.bool b)=true:=rfl
def Qa7 (b:Bool):AV.one (.bool b)=true:=rfl
def Qa3 (b:Bool):AV.gpfree (.bool b)=true:=rfl
def C3:AV.strip (.nlp)= .nlp:=rfl
def Qgy:AV.ok (.nlp)=true:=rfl
def Qer:AV.one (.nlp)=true:=rfl
def Qei:AV.gpfree (.nlp)=true:=rfl
def D8:AV.strip (.anyb)= .anyb:=rfl
def Qel:AV.ok (.anyb)=true:=rfl
def Qa6:AV.one (.anyb)=true:=rfl
def Qa2:AV.gpfree (.anyb)=true:=rfl
def C4 (s:Qv):AV.strip (.str s)= .str s:=rfl
def Qgz (s:Qv):AV.ok (.str s)=true:=rfl
def Qes (s:Qv):AV.one (.str s)=true:=rfl
def Qej (s:Qv):AV.gpfree (.str s)=true:=rfl
def C0 (cs:Qh):AV.strip (.agg cs)= .agg cs:=rfl
def Qgv (cs:Qh):AV.ok (.agg cs)=true:=rfl
def Qeo (cs:Qh):AV.one (.agg cs)=false:=rfl
def Qef (cs:Qh):AV.gpfree (.agg cs)=QV cs:=rfl
def Qbd (o:Bool) (z:Nat) (xs:Qa):AV.strip (.sl o z xs)= .sl false z xs:=rfl
def Qke (o:Bool) (z:Nat) (xs:Qa):AV.ok (.sl o z xs)=true:=rfl
def QgF (o:Bool) (z:Nat) (xs:Qa):AV.one (.sl o z xs)=true:=rfl
def Qgu (o:Bool) (z:Nat) (xs:Qa):AV.gpfree (.sl o z xs)=ZU xs:=rfl
def Qa9 (cs:Qh):AV.strip (.bx cs)= .bx cs:=rfl
def Qka (cs:Qh):AV.ok (.bx cs)=false:=rfl
def QgB (cs:Qh):AV.one (.bx cs)=false:=rfl
def Qgr (cs:Qh):AV.gpfree (.bx cs)=QV cs:=rfl
def Qbb (i o:Nat):AV.strip (.gp i o)= .gp i o:=rfl
def Qkc (i o:Nat):AV.ok (.gp i o)=true:=rfl
def QgD (i o:Nat):AV.one (.gp i o)=true:=rfl
def Qgt (i o:Nat):AV.gpfree (.gp i o)=false:=rfl
def Qbc (i o z n:Nat):AV.strip (.gs i o z n)= .gs i o z n:=rfl
def Qkd (i o z n:Nat):AV.ok (.gs i o z n)=true:=rfl
def QgE (i o z n:Nat):AV.one (.gs i o z n)=true:=rfl
def Ca (cs:Qh):AV.strip (.rptr cs)= .rptr cs:=rfl
def Qen (cs:Qh):AV.ok (.rptr cs)=true:=rfl
def Qa8 (cs:Qh):AV.one (.rptr cs)=true:=rfl
def Qa4 (cs:Qh):AV.gpfree (.rptr cs)=QV cs:=rfl
def Qba (f:Nat) (cs:Qh):AV.strip (.fn f cs)= .fn f cs:=rfl
def Qkb (f:Nat) (cs:Qh):AV.ok (.fn f cs)=true:=rfl
def QgC (f:Nat) (cs:Qh):AV.one (.fn f cs)=true:=rfl
def Qgs (f:Nat) (cs:Qh):AV.gpfree (.fn f cs)=QV cs:=rfl
def C5 (vs:Qh):AV.strip (.tup vs)= .tup vs:=rfl
def QgA (vs:Qh):AV.ok (.tup vs)=true:=rfl
def Qet (vs:Qh):AV.one (.tup vs)=false:=rfl
def Qek (vs:Qh):AV.gpfree (.tup vs)=QV vs:=rfl
def C1 (b:Bool):AV.strip (.err b)= .err b:=rfl
def Qgw (b:Bool):AV.ok (.err b)=true:=rfl
def Qep (b:Bool):AV.one (.err b)=true:=rfl
def Qeg (b:Bool):AV.gpfree (.err b)=true:=rfl
def Qf0 {α:Type} (p:Prop) [Decidable p] (a b c:α): (if p then(if p then a else b)else c)=if p then a else c:=by split <;> simp_all
def QfZ {α:Type} (p:Prop) [Decidable p] (a b c:α): (if p then a else(if p then b else c))=if p then a else c:=by split <;> simp_all
attribute [simp] C3 Qgy Qer Qei H6 Qa5 CZ CY C2 Qgx Qeq Qeh D9 Qem Qa7 Qa3 D8 Qel Qa6 Qa2 C4 Qgz Qes Qej C0 Qgv Qeo Qef Qbd Qke QgF Qgu Qa9 Qka QgB Qgr Qbb Qkc QgD Qgt Qbc Qkd QgE Ca Qen Qa8 Qa4 Qba Qkb QgC Qgs C5 QgA Qet Qek C1 Qgw Qep Qeg Qf0 QfZ
attribute [simp] Oa Qnt Qpk Qnr Qpj Qpl Qhx Qnq QoY QkI Qhw QkF Qhs QkE QeC QeB Qan C6 QgK QeA HO A6 Cu CJ QfO Lj Hq Hp Li Qaz CO Qj Qql Qqk Qe8 Ct Ka aun Xw X1 Ui QV ZU XJ Y1 cellsOf put Qkx QkH Qhu QeY Qhv Qhr QjJ Oz Qg1 CS QaD Qex Qeu QoO QoP Qkj Qkk Qkg Qkh Qez QgI Qew Qev QgH Qbe Qki QgJ Qey QaT
attribute [simp ↓] QnQ
attribute [simp 2000] QkG Qht Qqu Qqt
def CP (c:Bool) (x y:Out):XI c false x y=XI c true y x:=by cases c <;> rfl
def CN (c x y:Bool) (s:Qa):XI c true (some (.bool x,s)) (some (.bool y,s))=some (.bool (bif c then x else y),s):=by cases c <;> rfl
def Dj (c:Bool) (k:IntKind) (x y:Int) (s:Qa):XI c true (some (.int k x,s)) (some (.int k y,s))=some (.int k (bif c then x else y),s):=by cases c <;> rfl
def Qe {T:Vs} {c c':AC} (h:c=c') (ρ:Ql) (bs:Qa) (k:Kn):R T (.loop c) ρ bs k=R T c' ρ bs (QI T (.loop c) k):=by
 subst h;exact Qns c ρ bs k
attribute [simp] toI
def Q8 {α:Type} (x:α) (xs:List α): (x:: xs)[0]? =some x:=rfl
attribute [simp] CP CN Dj VV XF ZI Bool.cond_decide
def Zg {n:Int} (h1: -9223372036854775808<=n) (h2:n < 9223372036854775808):IntKind.i64.wrap n=n:=by
 simp only[IntKind.wrap_i64];omega
def wr1 (n:Nat) (h:n+1 < 9223372036854775808):IntKind.i64.wrap ((n:Int)+1)=(n:Int)+1:=Zg (by omega) (by omega)
def QE {α:Type} {l pre post:List α} {x:α} (h:l=pre ++ x:: post):l.length=pre.length+ (post.length+1):=by rw[h];simp
def QG {α:Type} {l pre post:List α} {x:α} (h:l=pre ++ x:: post): (pre.length:Int) < (l.length:Int):=by have:=QE h;omega
@[simp] def QrO (n:Nat) (vs:Qh):stV (.t n) vs=vs.map AV.strip:=rfl
@[simp] def QrL (z:Nat) (vs:Qh):stV (.c (.sl true z [])) vs=vs.map fun _=> .sl true z []:=rfl
@[simp] def QrK (k:IntKind) (n:Int) (vs:Qh):stV (.c (.int k n)) vs=vs.map AV.strip:=rfl
@[simp] def QrM (s:Qv) (vs:Qh):stV (.c (.str s)) vs=vs.map AV.strip:=rfl
@[simp] def Qrn (b:Bool) (vs:Qh):stV (.c (.bool b)) vs=vs.map AV.strip:=rfl
@[simp] def QrI (cs:Qh) (vs:Qh):stV (.c (.agg cs)) vs=vs.map AV.strip:=rfl
@[simp] def QrJ (b:Bool) (vs:Qh):stV (.c (.err b)) vs=vs.map AV.strip:=rfl
@[simp] def QrB (i o k:Nat):RI (.gs i o 0 0) (.sl true k [])= .sl true k []:=rfl
@[simp] def Qrc (k:IntKind) (n:Int) (z:AV):RI (.int k n) z= .int k n:=rfl
@[simp] def Qrd (s:Qv) (z:AV):RI (.str s) z= .str s:=rfl
@[simp] def Qqr (b:Bool) (z:AV):RI (.bool b) z= .bool b:=rfl
@[simp] def QrC (o:Bool) (k:Nat) (xs:Qa) (z:AV):RI (.sl o k xs) z= .sl false k xs:=rfl
attribute [simp] W4
@[simp] def Qqh (i:Nat):AV.strip (.mp i)= .mp i:=rfl
@[simp] def QoN (z:Nat) (xs:Qa) (vs:Qh):AV.strip (.otup z xs vs)= .tup (.sl false z xs:: vs):=rfl
@[simp] def Qqs (z:Nat) (xs:Qa) (vs:Qh):AV.ok (.otup z xs vs)=true:=rfl
@[simp] def Qqd (z:Nat) (xs:Qa) (vs:Qh):AV.gpfree (.otup z xs vs)=(ZU xs && QV vs):=rfl
@[simp] def Qqi (z:Nat) (cs:Qh):AV.strip (.pv z cs)= .pv z cs:=rfl
@[simp] def QrH (z:Nat) (cs:Qh):AV.ok (.pv z cs)=false:=rfl
@[simp] def QrG (i:Nat):AV.ok (.mp i)=true:=rfl
@[simp] def Qrm (i:Nat):AV.one (.mp i)=true:=rfl
@[simp] def Qri (i:Nat):AV.gpfree (.mp i)=false:=rfl
def Jn:=@Bool.true_or
@[simp] def P5: ∀bs:Qa,X9 bs bs=true
 | []=>rfl
 | x:: xs=>by simp only[X9,Xn,P5 xs,Jn,VQ]
@[simp] def Qqz (ys:Qa):X9 [] ys=true:=rfl
@[simp] def CF (a b c:Qa):X9 (a ++ b) (a ++ c)=X9 b c:=by
 induction a with
 | nil=>rfl
 | cons x xs ih=>simp only[Ws,X9,Xn,ih,Jn,VQ]
@[simp] def Qqy (a c:Qa):X9 a (a ++ c)=true:=by
 have:=CF a [] c;simpa using this
@[simp] def Qqm (x:Qh) (xs ys:Qa):X9 (x:: xs) (x:: ys)=X9 xs ys:=by simp only[X9,Xn,Jn,VQ]
@[simp] def EU {cs:Qh} (h:QV cs=true): ∀(bs:Qa) (i:Nat),X9 bs (bs.set i cs)=true
 | [],_=>rfl
 | x:: xs,0=>by simp only[List.set_cons_zero,X9,h,P5,Bool.or_true,Rx]
 | x:: xs,i+1=>by simp only[List.set_cons_succ,X9,Xn,EU h xs i,Jn,Rx]
def Ix: ∀{xs ys:Qa},xs.length<=ys.length->(∀(i:Nat) (x y:Qh),xs[i]? =some x->ys[i]? =some y->x=y\/QV y=true)->X9 xs ys=true
 | [],_,_,_=>rfl
 | _:: _,[],h,_=>by simp at h
 | x:: xs,y:: ys,h,hh=>by
  simp only[X9,Qo,Vz];refine⟨?_,Ix (by simpa using h) fun i a b ha hb=>hh (i+1) a b (by simpa using ha) (by simpa using hb)⟩;rcases hh 0 x y rfl rfl with h1 | h1
  ·subst h1;exact .inl (Xn x)
  ·exact .inr h1
@[simp] def Qrv {x y:Qh} (h:QV y=true) (xs ys:Qa):X9 (x:: xs) (y:: ys)=X9 xs ys:=by simp only[X9,h,Bool.or_true,VQ]
@[simp] def QoW:QV []=true:=rfl
@[simp] def Dh (x:AV) (xs:Qh):QV (x:: xs)=(x.gpfree && QV xs):=rfl
@[simp] def CL: ∀n:Nat,QV (List.replicate n .undef)=true
 | 0=>rfl
 | n+1=>by rw[Mx,Dh,CL n];rfl
@[simp] def EW (bs:Qa) (i:Nat):X9 bs (bs.set i [])=true:=EU rfl bs i
@[simp] def Qqf (t i n:Nat):AV.strip (.gb t i n)= .gb t i n:=rfl
@[simp] def QrE (t i n:Nat):AV.ok (.gb t i n)=true:=rfl
@[simp] def Qrk (t i n:Nat):AV.one (.gb t i n)=true:=rfl
@[simp] def Qrg (t i n:Nat):AV.gpfree (.gb t i n)=false:=rfl
@[simp] def Qqg (t i:Nat):AV.strip (.gt t i)= .gt t i:=rfl
@[simp] def QrF (t i:Nat):AV.ok (.gt t i)=true:=rfl
@[simp] def Qrl (t i:Nat):AV.one (.gt t i)=true:=rfl
@[simp] def Qrh (t i:Nat):AV.gpfree (.gt t i)=false:=rfl
@[simp] def Qqe (f:Nat) (cs:Qh):AV.strip (.bf f cs)= .bf f cs:=rfl
@[simp] def QrD (f:Nat) (cs:Qh):AV.ok (.bf f cs)=true:=rfl
@[simp] def Qrj (f:Nat) (cs:Qh):AV.one (.bf f cs)=true:=rfl
@[simp] def Qrf (f:Nat) (cs:Qh):AV.gpfree (.bf f cs)=QV cs:=by simp only[AV.gpfree]
def zcc (n:Nat) {fn:Zi} (h:tb n=some (.code fn)) {args:Qh} {bs:Qa} (hl:args.length=fn.nparams):
  call tb n args bs=R tb fn.body (XG args) bs (QK fn bs):=P4 h args bs hl
end Go.Am
namespace Go.Am
set_option maxRecDepth 20000
def MV (a b:Int) (bs:Qa):call tb 32 [.int .i64 a,.int .i64 b] bs=some (.int .i64 (if a < b then -1 else if a > b then 1 else 0),bs):=by
 rw[zcc 32 rfl rfl];simp[f32,f32C]
def SF (c:UInt8):Bool:=(97<=c.toNat && c.toNat<=122) || (65<=c.toNat && c.toNat<=90) || (48<=c.toNat && c.toNat<=57) || c.toNat == 95 || c.toNat == 35
def Jf:=@Bool.eq_iff_iff
def EQ (n m:Nat): ((n:Int) == (m:Int))=(n == m):=by rw[Jf,Uc,Uc];omega
def Jv (n:Nat): ((n:Int) == 95)=(n == 95):=EQ n 95
def Ju (n:Nat): ((n:Int) == 35)=(n == 35):=EQ n 35
def MU (c:UInt8) (bs:Qa):call tb 9 [.int .u8 c.toNat] bs=some (.bool (SF c),bs):=by
 rw[zcc 9 rfl rfl];simp (config:={maxSteps:=1000000}) [f9,f9C,SF,Jv,Ju];have e1: ∀m:Nat,((m:Int)<=(c.toNat:Int))=(m<=c.toNat):=fun m=>by simp
 have e2: ∀m:Nat,((c.toNat:Int)<=(m:Int))=(c.toNat<=m):=fun m=>by simp
 simp only[show(97:Int)=((97:Nat):Int)from rfl,show(122:Int)=((122:Nat):Int)from rfl,show(65:Int)=((65:Nat):Int)from rfl,show(90:Int)=((90:Nat):Int)from rfl,show(48:Int)=((48:Nat):Int)from rfl,show(57:Int)=((57:Nat):Int)from rfl,e1,e2];by_cases h1:97<=c.toNat <;> by_cases h2:c.toNat<=122 <;> by_cases h3:65<=c.toNat <;> by_cases h4:c.toNat<=90 <;> by_cases h5:48<=c.toNat <;> by_cases h6:c.toNat<=57 <;> simp[h1,h2,h3,h4,h5,h6]
def CR (s:Qv) (bs:Qa) (hs:s.length < 4611686018427387904): ∀(k i:Nat) (ρ:Ql),s.length - i=k->i<=s.length->ρ 0= .str s->ρ 38= .int .i64 s.length->ρ 39= .int .i64 i->
  R tb (.loop f8l0) ρ bs (Qq 0 (QI tb f8r0 (QK f8 bs)))=some (.bool ((s.drop i).all SF),bs):=by
 intro k
 induction k with
 | zero=>
  intro i ρ hk hi h0 h38 h39;have:i=s.length:=by omega
  subst this;rw[Qe f8l0.eq_1];simp[h0,h38,h39,f8r0]
 | succ k ih=>
  intro i ρ hk hi h0 h38 h39;have hlt:i < s.length:=by omega
  have hw:IntKind.i64.wrap ((i:Int)+1)=((i+1:Nat):Int):=Zg (by omega) (by omega);rw[Qe f8l0.eq_1,F4 hlt,Sn];cases hb:SF s[i]
  ·simp[h0,h38,h39,hlt,MU,hb]
  ·simp[h0,h38,h39,hlt,MU,hb,hw];rw[ih (i+1)] <;> first | rfl | omega | simp[h0,h38]
def W3:Qv->Bool
 | []=>false
 | c:: r=>decide (r.length < 24) && SF c && !(decide (48<=c.toNat) && decide (c.toNat<=57)) && c.toNat != 95 && c.toNat != 35 && r.all SF
def WQ:=@eq_iff_iff
def CA (s:Qv) (bs:Qa) (hs:s.length < 4611686018427387904):call tb 8 [.str s] bs=some (.bool (W3 s),bs):=by
 rw[zcc 8 rfl rfl];cases s with
 | nil=>simp[f8C,W3]
 | cons c r=>
  have hl:=CR (c:: r) bs hs ((c:: r).length - 0) 0;simp (config:={maxSteps:=1000000}) [f8C,MU,hl,Jv,Ju];have e1: (24 < (r.length:Int)+1)=(¬r.length < 24):=by rw[WQ];omega
  have e2: ((48:Int)<=(c.toNat:Int))=(48<=c.toNat):=by rw[WQ];omega
  have e3: ((c.toNat:Int)<=57)=(c.toNat<=57):=by rw[WQ];omega
  simp only[W3,e1,e2,e3,bne];by_cases h1:r.length < 24 <;> by_cases h2:48<=c.toNat <;> by_cases h3:c.toNat<=57 <;> cases SF c <;> simp[h1,h2,h3]
end Go.Am
namespace Go.Am
set_option maxRecDepth 20000
attribute [simp] IE IF
attribute [simp] UM Z3 S7 Zs
attribute [simp] Wh M9 YV ZA Qi Hg Qdt Qdu Qdv Qdw BR BS BT BU OY Y8
attribute [simp] Int.toNat_natCast
attribute [simp] IE IF
def Mn (t:Tm) (bs:Qa) (hm:t.mass < big) (ih: ∀x∈t.kids,∀bs,call tb 31 [.agg (Qf x)] bs=some (.int .i64 x.nodes,bs)):
  ∀(post pre:Qc) (ρ:Ql),t.kids=pre ++ post->ρ 7= .sl false 4 (Qb t.kids)->ρ 8= .int .i64 t.kids.length->ρ 9= .int .i64 pre.length->ρ 3= .int .i64 (1+Qw pre:Nat)->
  R tb (.loop f31l0) ρ bs (Qq 0 (QI tb f31r0 (QK f31 bs)))=some (.int .i64 t.nodes,bs):=by
 have hm2:=QH t;have hn:=Yn t.kids;unfold big at hm;intro post
 induction post with
 | nil=>
  intro pre ρ hk h7 h8 h9 h3;rw[Qe f31l0.eq_1];simp at hk;simp[h3,h8,h9,<- hk,f31r0,XV]
 | cons x post IH=>
  intro pre ρ hk h7 h8 h9 h3;have hg:=Qx hk;have hl:=QE hk;have hnn:Qw t.kids=Qw pre+ (x.nodes+Qw post):=by rw[hk,Xb];simp[Qw]
  have hw1:=wr1 pre.length (by omega);have hw2:IntKind.i64.wrap (1+ (Qw pre:Int)+ (x.nodes:Int))=1+ (Qw pre:Int)+ (x.nodes:Int):=Zg (by omega) (by omega);have hlt:=QG hk;rw[Qe f31l0.eq_1];simp[h3,h7,h8,h9,hg,hw1,hw2,hlt,ih x (by rw[hk];simp)];rw[IH (pre ++ [x])] <;> simp[h3,h7,h8,h9,hk,Xb,Qw];omega
def Rz: ∀(t:Tm) (bs:Qa),t.mass < big->call tb 31 [.agg (Qf t)] bs=some (.int .i64 t.nodes,bs):=by
 refine Yj ?_;intro k n s ks ih bs hm;rw[zcc 31 rfl rfl];simp[f31C];refine Mn (.mk k n s ks) bs hm (fun x hx bs=>ih x hx bs ?_) ks [] _ ?_ ?_ ?_ ?_ ?_ <;> (try simp[Qw]);have:=QY hx;have:=QH (.mk k n s ks);simp at *;omega
end Go.Am
namespace Go.Am
set_option maxRecDepth 20000
def two (bs:Qa) (i j:Nat) (n d:Int):Qa:=(bs.set i [.int .i64 n]).set j [.int .i64 d]
section
variable {bs:List (List AV)} {i j:Nat} {n d m:Int}
def Pc: (two bs i j n d).length=bs.length:=by simp[two]
def Qhl (hi:i < bs.length) (hij:i≠j): (two bs i j n d)[i]? =some [.int .i64 n]:=by
 rw[two,WZ (Ne.symm hij),Tg hi]
def Qhm (hj:j < bs.length): (two bs i j n d)[j]? =some [.int .i64 d]:=by simp[two,hj]
def QgX (hij:i≠j): (two bs i j n d).set i [.int .i64 m]=two bs i j m d:=by
 simp only[two];rw[List.set_comm _ _ (Ne.symm hij),OS]
@[simp] def EX {n' d':Int}:X9 (two bs i j n d) (two bs i j n' d')=true:=Ix (by simp[Pc]) fun k x y hx hy=>by
 unfold two at hx hy;rw[Xh]at hx hy;split at hy
 ·split at hy
  ·injection hy with hy;subst hy;exact .inr rfl
  ·cases hy
 ·rename_i hjk;rw[Qm hjk]at hx;rw[Xh]at hx hy;split at hy
  ·split at hy
   ·injection hy with hy;subst hy;exact .inr rfl
   ·cases hy
  ·rename_i hik;rw[Qm hik,hy]at hx;injection hx with hx
   exact .inl hx.symm
def QgY: (two bs i j n d).set j [.int .i64 m]=two bs i j n m:=by simp[two]
end
def RQ (t:Tm):Int:=
 if t.kind=1\/t.kind=2 then
  if(t.sort < 0\/5 < t.sort)\/0 < t.kids.length then 1 else if W3 t.name=false then 2 else if 8 < t.kids.length then 3 else 0
 else if t.kind=3 then
  if t.sort≠0 then 1 else if W3 t.name=false then 2 else if 8 < t.kids.length then 3 else 0
 else 1
mutual
def Wa:Tm->Int
 | .mk k n s ks=>if RQ (.mk k n s ks)≠0 then RQ (.mk k n s ks)else V5 ks
def V5:List Tm->Int
 | []=>0
 | t:: ts=>if Wa t≠0 then Wa t else V5 ts
end
mutual
def Ut:Tm->Int->Int×Int->Int×Int
 | .mk k n s ks,l,p=>if RQ (.mk k n s ks)≠0 then(p.1+1,if l > p.2 then l else p.2)else Tw ks l (p.1+1,if l > p.2 then l else p.2)
def Tw:List Tm->Int->Int×Int->Int×Int
 | [],_,p=>p
 | t:: ts,l,p=>if Wa t≠0 then Ut t (l+1) p else Tw ts l (Ut t (l+1) p)
end
mutual
theorem BJ: ∀(t:Tm) (l:Int) (p:Int×Int),p.1<=(Ut t l p).1/\(Ut t l p).1<=p.1+t.nodes
 | .mk k n s ks,l,p=>by
  simp only[Ut,Tm.nodes];have:=BH ks l (p.1+1,if l > p.2 then l else p.2);split <;> simp at * <;> omega
theorem BH: ∀(ts:List Tm) (l:Int) (p:Int×Int),p.1<=(Tw ts l p).1/\(Tw ts l p).1<=p.1+Qw ts
 | [],l,p=>by simp[Tw,Qw]
 | t:: ts,l,p=>by
  simp only[Tw,Qw];have:=BJ t (l+1) p;have:=BH ts l (Ut t (l+1) p);split <;> omega
end
def Qai (t:Tm) (l:Int) (bs:Qa) (i j:Nat) (hi:i < bs.length) (hj:j < bs.length) (hij:i≠j) (hm:t.mass < big) (hl:0<=l/\l+t.depth<=big) (n0 d0:Int)
  (ih: ∀x∈t.kids,∀n d:Int,0<=n->n+x.nodes < 2*big->call tb 7 [.agg (Qf x),.int .i64 (l+1),.gp i 0,.gp j 0] (two bs i j n d)=some (.int .i64 (Wa x),two bs i j (Ut x (l+1) (n,d)).1 (Ut x (l+1) (n,d)).2)):
  ∀(post pre:Qc) (n d:Int) (ρ:Ql),0<=n->n+Qw post < 2*big->t.kids=pre ++ post->ρ 57= .sl false 4 (Qb t.kids)->ρ 58= .int .i64 t.kids.length->ρ 59= .int .i64 pre.length->
   ρ 1= .int .i64 l->ρ 2= .gp i 0->ρ 3= .gp j 0->
  R tb (.loop f7l0) ρ (two bs i j n d) (Qq 1 (QI tb f7r0 (QK f7 (two bs i j n0 d0))))=
   some (.int .i64 (V5 post),two bs i j (Tw post l (n,d)).1 (Tw post l (n,d)).2):=by
 have hm2:=QH t;have hdp:=Nu t;unfold big at *;have hji:=Ne.symm hij;intro post
 induction post with
 | nil=>
  intro pre n d ρ hn hnb hk h57 h58 h59 h1 h2 h3;rw[Qe f7l0.eq_1];simp at hk;simp[h1,h2,h3,h57,h58,h59,<- hk,f7r0,V5,Tw,Pc];rw[YD (by simp[Pc])];exact⟨EX,rfl⟩
 | cons x post IH=>
  intro pre n d ρ hn hnb hk h57 h58 h59 h1 h2 h3;have hg:=Qx hk;have hlen:t.kids.length=pre.length+ (post.length+1):=by rw[hk];simp
  simp only[Qw]at hnb;have hw1:=wr1 pre.length (by omega);have hw2:IntKind.i64.wrap (l+1)=l+1:=Zg (by omega) (by omega);have hlt: (pre.length:Int) < (t.kids.length:Int):=by omega
  have hx:=ih x (by rw[hk];simp) n d hn (by omega);have hc:=BJ x (l+1) (n,d);rw[Qe f7l0.eq_1];by_cases he:Wa x=0
  ·simp[h1,h2,h3,h57,h58,h59,hg,hw1,hw2,hlt,hx,he];simp only[V5,Tw,he,ne_eq,not_true,Zp];rw[IH (pre ++ [x])] <;> (first | (simp at hc;omega) | simp[h1,h2,h3,h57,h58,h59,hk])
  ·simp[h1,h2,h3,h57,h58,h59,hg,hw1,hw2,hlt,hx,he,V5,Tw];rw[YD (by simp[Pc])];exact⟨EX,rfl⟩
def Qae: ∀(t:Tm) (l:Int) (bs:Qa) (i j:Nat) (n d:Int),i < bs.length->j < bs.length->i≠j->t.mass < big->0<=l->l+t.depth<=big->0<=n->n+t.nodes < 2*big->
  call tb 7 [.agg (Qf t),.int .i64 l,.gp i 0,.gp j 0] (two bs i j n d)=some (.int .i64 (Wa t),two bs i j (Ut t l (n,d)).1 (Ut t l (n,d)).2):=by
 refine Yj ?_;intro k nm s ks ih l bs i j n d hi hj hij hm hl hld hn hnb;have hm2:=QH (.mk k nm s ks);have hnn:=XV (.mk k nm s ks);have hdp:=Nu (.mk k nm s ks);simp only[Zs,Z3]at hm2 hnn hdp;have hdl:=US ks;have hnm:=Yn ks;have hloop: ∀ρ:Ql,ρ 57= .sl false 4 (Qb ks)->ρ 58= .int .i64 ks.length->ρ 59= .int .i64 0->
   ρ 1= .int .i64 l->ρ 2= .gp i 0->ρ 3= .gp j 0->
  R tb (.loop f7l0) ρ (two bs i j (n+1) (if l > d then l else d)) (Qq 1 (QI tb f7r0 (QK f7 (two bs i j n d))))=
   some (.int .i64 (V5 ks),two bs i j (Tw ks l (n+1,if l > d then l else d)).1 (Tw ks l (n+1,if l > d then l else d)).2):=by
  intro ρ h57 h58 h59 h1 h2 h3;refine Qai (.mk k nm s ks) l bs i j hi hj hij hm ⟨hl,hld⟩ n d ?_ ks [] (n+1) (if l > d then l else d) ρ (by omega) (by omega) rfl h57 h58 h59 h1 h2 h3;intro x hx n d hn hnb;have h1:=QY hx;have h2:=Jx hx;simp only[Zs]at h1 h2;exact ih x hx (l+1) bs i j n d hi hj hij (by omega) (by omega) (by omega) hn hnb
 unfold big at hm hnb;have hw:IntKind.i64.wrap (n+1)=n+1:=Zg (by omega) (by omega);have hji:=Ne.symm hij;have htk: ∀(a b:Int),List.take bs.length (two bs i j a b)=two bs i j a b:=fun a b=>YD (by simp[Pc]);have hnl:nm.length < 4611686018427387904:=by omega
 have hks: ((8:Int) < ks.length)=(8 < ks.length):=by rw[WQ];omega
 rw[zcc 7 rfl rfl];simp (config:={maxSteps:=1000000}) [f7C,hw,Qhl hi hij,Qhm hj,QgX hij,QgY,Pc,CA,hnl,htk,hks];simp only[gt_iff_lt]at hloop;clear ih hm hl hld hn hnb hm2 hnn hdp hdl hnm hw htk hnl hks hi hj hij hji;generalize hdd: (if d < l then l else d)=d' at *;simp only[WL,Qy,Vz]
 repeat' split
 all_goals simp only[Wa,Ut,RQ,UM,S7,Z3,Zs,gt_iff_lt,hdd]
 all_goals first
  | (rw[hloop] <;> simp[*];done)
  | (simp[*];done)
  | skip
def Q1 (t:Tm):Int:=if Wa t≠0 then Wa t else if 400 < t.nodes\/40 < t.depth then 3 else 0
mutual
theorem BK: ∀(t:Tm) (l:Int) (p:Int×Int),Wa t=0->Ut t l p=(p.1+t.nodes,max p.2 (l+t.depth - 1))
 | .mk k n s ks,l,p,h=>by
  simp only[Wa]at h;split at h
  ·rename_i hne;exact absurd h hne
  ·rename_i hne;simp only[Ut,hne,Zp,Tm.nodes,Tm.depth];rw[BI ks l _ h];refine Prod.ext ?_ ?_
   ·simp;omega
   ·cases ks with
    | nil=>simp[YZ,Qw];split <;> omega
    | cons t ts=>simp[YZ];split <;> omega
theorem BI: ∀(ts:List Tm) (l:Int) (p:Int×Int),V5 ts=0->Tw ts l p=(p.1+Qw ts,if ts=[]then p.2 else max p.2 (l+YZ ts))
 | [],l,p,_=>by simp[Tw,Qw]
 | t:: ts,l,p,h=>by
  simp only[V5]at h;split at h
  ·rename_i hne;exact absurd h hne
  ·rename_i hne;have he:Wa t=0:=by simpa using hne
   simp only[Tw,hne,Zp,Qw,YZ];rw[BI ts l _ h,BK t (l+1) p he];refine Prod.ext ?_ ?_
   ·simp;omega
   ·cases ts with
    | nil=>simp[YZ];omega
    | cons u us=>simp[YZ];omega
end
def Us (t:Tm) (bs:Qa) (hm:t.mass < big):call tb 6 [.agg (Qf t)] bs=some (.int .i64 (Q1 t),bs):=by
 have h2:bs ++ [[AV.int .i64 0],[AV.int .i64 0]]=two (bs ++ [[AV.int .i64 0],[AV.int .i64 0]]) bs.length (bs.length+1) 0 0:=by
  simp[two]
 have hn:=YC t;have hd:=OX t;have hb:big=1099511627776:=rfl;have hc:=Qae t 1 (bs ++ [[AV.int .i64 0],[AV.int .i64 0]]) bs.length (bs.length+1) 0 0 (by simp) (by simp) (by omega) hm (by omega) (by omega) (by omega) (by omega);rw[<- h2]at hc;have hi:=Qhl (bs:=bs ++ [[AV.int .i64 0],[AV.int .i64 0]]) (i:=bs.length) (j:=bs.length+1) (n:=(Ut t 1 (0,0)).1) (d:=(Ut t 1 (0,0)).2) (by simp) (by omega);have hj:=Qhm (bs:=bs ++ [[AV.int .i64 0],[AV.int .i64 0]]) (i:=bs.length) (j:=bs.length+1) (n:=(Ut t 1 (0,0)).1) (d:=(Ut t 1 (0,0)).2) (by simp);have htk:List.take bs.length (two (bs ++ [[AV.int .i64 0],[AV.int .i64 0]]) bs.length (bs.length+1) (Ut t 1 (0,0)).1 (Ut t 1 (0,0)).2)=bs:=by
  simp[two]
 have hcnt:=BK t 1 (0,0);rw[zcc 6 rfl rfl];simp[f6C,hc,hi,hj,htk,Q1];by_cases he:Wa t=0
 ·have:=Nu t;have e1: (400 < (t.nodes:Int))=(400 < t.nodes):=by rw[WQ];omega
  have e2: (40 < (max 0 (1+ (t.depth:Int) - 1)))=(40 < t.depth):=by rw[WQ];omega
  simp[he,hcnt he,e1,e2,WL]
 ·simp[he]
end Go.Am
namespace Go.Am
set_option maxRecDepth 20000
def Nk (a b:Int) (bs:Qa):call tb 32 [.int .i64 a,.int .i64 b] bs=some (.int .i64 (sgn a b),bs):=MV a b bs
def Kj (a b:Qv) (bs:Qa):call tb 33 [.str a,.str b] bs=some (.int .i64 (Wz a b),bs):=by
 rw[Wy tb_33];rfl
def Pd (t u:Tm) (bs:Qa) (hm:t.mass < big) (hu:u.mass < big)
  (ih: ∀x∈t.kids,∀y bs,y.mass < big->call tb 30 [.agg (Qf x),.agg (Qf y)] bs=some (.int .i64 (Qp x y),bs)):
  ∀(xs ys pre pre':Qc) (c:Int) (ρ:Ql),t.kids=pre ++ xs->u.kids=pre' ++ ys->pre.length=pre'.length->(c=0->xs.length=ys.length)->
   ρ 2= .bx (Qf t)->ρ 3= .bx (Qf u)->ρ 5= .int .i64 c->ρ 6= .int .i64 pre.length->
  R tb (.loop f30l0) ρ bs (Qq 0 (QI tb f30r0 (QK f30 bs)))=some (.int .i64 (or0 c (Xy xs ys)),bs):=by
 have hm2:=QH t;have hu2:=QH u;intro xs
 induction xs with
 | nil=>
  intro ys pre pre' c ρ hk hk' hp hc h2 h3 h5 h6;rw[Qe f30l0.eq_1];simp at hk;by_cases h0:c=0
  ·simp[h2,h3,h5,h6,h0,f30r0,hk,Xy,Gj]
  ·simp[h2,h3,h5,h6,h0,f30r0,Xy,Gj]
 | cons x xs IH=>
  intro ys pre pre' c ρ hk hk' hp hc h2 h3 h5 h6;rw[Qe f30l0.eq_1];by_cases h0:c=0
  ·obtain⟨y,ys',rfl⟩: ∃y ys',ys=y:: ys':=by
    have:=hc h0;cases ys with
    | nil=>simp at this
    | cons y ys'=>exact⟨y,ys',rfl⟩
   have hg:=Qx hk;have hg':=Qx hk';rw[<- hp]at hg';have hl:t.kids.length=pre.length+ (xs.length+1):=by rw[hk];simp
   have hlt: (pre.length:Int) < (t.kids.length:Int):=by omega
   have hym:y.mass < big:=by have:=QY (x:=y) (ks:=u.kids) (by rw[hk'];simp);omega
   unfold big at hm hu;have hw1:=wr1 pre.length (by omega);simp[h2,h3,h5,h6,h0,hlt,hg,hg',hw1,ih x (by rw[hk];simp) y bs hym];rw[IH ys' (pre ++ [x]) (pre' ++ [y]) (Qp x y)] <;> first | omega | (simp[hk,hk',hp,h2,h3,Xy,Tr];done) | (intro _;have:=hc h0;simp at this;omega)
  ·simp[h2,h3,h5,h6,h0,f30r0,Xy,SE]
def call_Compare: ∀(t u:Tm) (bs:Qa),t.mass < big->u.mass < big->call tb 30 [.agg (Qf t),.agg (Qf u)] bs=some (.int .i64 (Qp t u),bs):=by
 refine Yj ?_;intro k n s ks ih u bs hm hu;have hloop:=Pd (.mk k n s ks) u bs hm hu (fun x hx y bs hy=>ih x hx y bs (by have:=QY hx;have:=QH (.mk k n s ks);simp at *;omega) hy) ks u.kids [] [] (hdT (.mk k n s ks) u);rw[zcc 30 rfl rfl,SZ];have hsz:=Rz (.mk k n s ks) bs hm;have hsz':=Rz u bs hu;simp[f30C,hsz,hsz',Nk,Kj];by_cases c1:sgn (Tm.mk k n s ks).nodes u.nodes=0 <;> by_cases c2:sgn k u.kind=0 <;> by_cases c3:Wz n u.name=0 <;> by_cases c4:sgn s u.sort=0 <;>
  simp[c1,c2,c3,c4,WL] <;> rw[hloop] <;> first | (simp[hdT,c1,c2,c3,c4,Tr,SE];done) | (simp[hdT,c1,c2,c3,c4,PT,Tr,SE];omega) | skip
def AU (t:Tm) (bs:Qa) (hm:t.mass < big) (ih: ∀x∈t.kids,∀bs,call tb 60 [.agg (Qf x)] bs=some (.int .i64 x.nodes,bs)):
  ∀(post pre:Qc) (ρ:Ql),t.kids=pre ++ post->ρ 1= .bx (Qf t)->ρ 4= .int .i64 pre.length->ρ 3= .int .i64 (1+Qw pre:Nat)->
  R tb (.loop f60l0) ρ bs (Qq 0 (QI tb f60r0 (QK f60 bs)))=some (.int .i64 t.nodes,bs):=by
 have hm2:=QH t;have hn:=Yn t.kids;unfold big at hm;intro post
 induction post with
 | nil=>
  intro pre ρ hk h1 h4 h3;rw[Qe f60l0.eq_1];simp at hk;simp[h1,h3,h4,<- hk,f60r0,XV]
 | cons x post IH=>
  intro pre ρ hk h1 h4 h3;have hg:=Qx hk;have hl:=QE hk;have hnn:Qw t.kids=Qw pre+ (x.nodes+Qw post):=by rw[hk,Xb];simp[Qw]
  have hw1:=wr1 pre.length (by omega);have hw2:IntKind.i64.wrap (1+ (Qw pre:Int)+ (x.nodes:Int))=1+ (Qw pre:Int)+ (x.nodes:Int):=Zg (by omega) (by omega);have hlt:=QG hk;rw[Qe f60l0.eq_1];simp[h3,h1,h4,hg,hw1,hw2,hlt,ih x (by rw[hk];simp)];rw[IH (pre ++ [x])] <;> simp[h3,h1,h4,hk,Xb,Qw];omega
def Ni: ∀(t:Tm) (bs:Qa),t.mass < big->call tb 60 [.agg (Qf t)] bs=some (.int .i64 t.nodes,bs):=by
 refine Yj ?_;intro k n s ks ih bs hm;rw[zcc 60 rfl rfl];simp[f60C];refine AU (.mk k n s ks) bs hm (fun x hx bs=>ih x hx bs ?_) ks [] _ ?_ ?_ ?_ ?_ <;> (try simp[Qw]);have:=QY hx;have:=QH (.mk k n s ks);simp at *;omega
def HV (a b:Qc):YZ (a ++ b)=max (YZ a) (YZ b):=by
 induction a with
 | nil=>simp[YZ]
 | cons t ts ih=>simp[YZ,ih]
def Cn (t:Tm) (bs:Qa) (hm:t.mass < big) (ih: ∀x∈t.kids,∀bs,call tb 61 [.agg (Qf x)] bs=some (.int .i64 x.depth,bs)):
  ∀(post pre:Qc) (ρ:Ql),t.kids=pre ++ post->ρ 1= .bx (Qf t)->ρ 4= .int .i64 pre.length->ρ 3= .int .i64 (YZ pre:Nat)->
  R tb (.loop f61l0) ρ bs (Qq 0 (QI tb f61r0 (QK f61 bs)))=some (.int .i64 t.depth,bs):=by
 have hm2:=QH t;have hn:=US t.kids;have hn2:=Yn t.kids;unfold big at hm;intro post
 induction post with
 | nil=>
  intro pre ρ hk h1 h4 h3;rw[Qe f61l0.eq_1];simp at hk;have hw2:IntKind.i64.wrap ((YZ pre:Int)+1)=(YZ pre:Int)+1:=Zg (by omega) (by rw[<- hk];omega);simp[h1,h3,h4,hk,hw2,f61r0,Nu]
 | cons x post IH=>
  intro pre ρ hk h1 h4 h3;have hg:=Qx hk;have hl:=QE hk;have hw1:=wr1 pre.length (by omega);have hlt:=QG hk;rw[Qe f61l0.eq_1];simp[h3,h1,h4,hg,hw1,hlt,ih x (by rw[hk];simp)];rw[IH (pre ++ [x])] <;> simp[h3,h1,h4,hk,HV,YZ];split <;> omega
def Cw: ∀(t:Tm) (bs:Qa),t.mass < big->call tb 61 [.agg (Qf t)] bs=some (.int .i64 t.depth,bs):=by
 refine Yj ?_;intro k n s ks ih bs hm;rw[zcc 61 rfl rfl];simp[f61C];refine Cn (.mk k n s ks) bs hm (fun x hx bs=>ih x hx bs ?_) ks [] _ ?_ ?_ ?_ ?_ <;> (try simp[YZ]);have:=QY hx;have:=QH (.mk k n s ks);simp at *;omega
def EG (a b:Int) (bs:Qa):call tb 91 [.int .i64 a,.int .i64 b] bs=some (.int .i64 (sgn a b),bs):=by
 rw[zcc 91 rfl rfl];simp[f91,f91C,sgn]
def HK (t u:Tm) (bs:Qa) (hm:t.mass < big) (hu:u.mass < big)
  (ih: ∀x∈t.kids,∀y bs,y.mass < big->call tb 90 [.agg (Qf x),.agg (Qf y)] bs=some (.int .i64 (Qp x y),bs)):
  ∀(xs ys pre pre':Qc) (ρ:Ql),t.kids=pre ++ xs->u.kids=pre' ++ ys->pre.length=pre'.length->xs.length=ys.length->
   ρ 2= .bx (Qf t)->ρ 3= .bx (Qf u)->ρ 9= .int .i64 pre.length->
  R tb (.loop f90l0) ρ bs (Qq 0 (QI tb f90r0 (QK f90 bs)))=some (.int .i64 (Xy xs ys),bs):=by
 have hm2:=QH t;have hu2:=QH u;intro xs
 induction xs with
 | nil=>
  intro ys pre pre' ρ hk hk' hp hc h2 h3 h9;rw[Qe f90l0.eq_1];simp at hk;simp[h2,h3,h9,f90r0,hk,Xy]
 | cons x xs IH=>
  intro ys pre pre' ρ hk hk' hp hc h2 h3 h9;rw[Qe f90l0.eq_1];obtain⟨y,ys',rfl⟩: ∃y ys',ys=y:: ys':=by
   cases ys with
   | nil=>simp at hc
   | cons y ys'=>exact⟨y,ys',rfl⟩
  have hg:=Qx hk;have hg':=Qx hk';rw[<- hp]at hg';have hl:t.kids.length=pre.length+ (xs.length+1):=by rw[hk];simp
  have hlt: (pre.length:Int) < (t.kids.length:Int):=by omega
  have hym:y.mass < big:=by have:=QY (x:=y) (ks:=u.kids) (by rw[hk'];simp);omega
  unfold big at hm hu;have hw1:=wr1 pre.length (by omega);by_cases h0:Qp x y=0
  ·simp[h2,h3,h9,h0,hlt,hg,hg',hw1,ih x (by rw[hk];simp) y bs hym];rw[IH ys' (pre ++ [x]) (pre' ++ [y])] <;> first | omega | (simp[hk,hk',hp,h0,h2,h3,Xy,Tr];done) | (simp at hc;omega)
  ·simp[h2,h3,h9,h0,hlt,hg,hg',hw1,ih x (by rw[hk];simp) y bs hym,Xy,SE]
def UE: ∀(t u:Tm) (bs:Qa),t.mass < big->u.mass < big->call tb 90 [.agg (Qf t),.agg (Qf u)] bs=some (.int .i64 (Qp t u),bs):=by
 refine Yj ?_;intro k n s ks ih u bs hm hu;have hloop:=HK (.mk k n s ks) u bs hm hu (fun x hx y bs hy=>ih x hx y bs (by have:=QY hx;have:=QH (.mk k n s ks);simp at *;omega) hy) ks u.kids [] [];rw[zcc 90 rfl rfl,SZ];have hsz:=Ni (.mk k n s ks) bs hm;have hsz':=Ni u bs hu;simp[f90C,hsz,hsz',EG];have b0:Wz n u.name=if Op.bytesLess n u.name then -1 else if(Op.bytesLess n u.name || n == u.name)=false then 1 else 0:=by
  unfold Wz;cases Op.bytesLess n u.name <;> cases hh: (n == u.name) <;> simp
 generalize (n == u.name)=q at *;generalize Op.bytesLess n u.name=p at *;by_cases c1:sgn (Tm.mk k n s ks).nodes u.nodes=0 <;> by_cases c2:sgn k u.kind=0 <;> cases p <;> cases q <;> by_cases c4:sgn s u.sort=0 <;>
  by_cases c6:sgn ks.length u.kids.length=0 <;> simp[c1,c2,c4,c6,WL,hdT,Tr,SE,b0]
 all_goals (rw[hloop] <;> (try simp) <;> (try (have:=PT.1 c6;omega)))
def Xs (t u:Tm) (bs:Qa) (hm:t.mass < big) (hu:u.mass < big):call tb 89 [.agg (Qf t),.agg (Qf u)] bs=some (.bool (decide (Qp t u=0)),bs):=by
 rw[zcc 89 rfl rfl];simp[f89,f89C,UE t u bs hm hu]
end Go.Am
namespace Go.Am
set_option maxRecDepth 20000
mutual
def Ss:Tm->Int->Int
 | .mk _ n _ ks,m=>if m<=0\/40 < n.length then -1 else Tv ks (m - 1)
def Tv:List Tm->Int->Int
 | [],m=>m
 | t:: ts,m=>if Ss t m < 0 then -1 else Tv ts (Ss t m)
end
mutual
theorem Iq: ∀(t:Tm) (m:Int),Ss t m= -1\/0<=Ss t m/\Ss t m+t.nodes<=m/\t.mass+1<=42*t.nodes
 | .mk k n s ks,m=>by
  simp only[Ss,Tm.nodes,Tm.mass];split
  ·exact .inl rfl
  ·rename_i h;rcases Ip ks (m - 1) (by omega)with h1 | h1
   ·exact .inl h1
   ·right;omega
theorem Ip: ∀(ts:List Tm) (m:Int),0<=m->Tv ts m= -1\/0<=Tv ts m/\Tv ts m+Qw ts<=m/\Qu ts+ts.length<=42*Qw ts
 | [],m,h=>by simp[Tv,Qw,Qu];omega
 | t:: ts,m,h=>by
  simp only[Tv,Qw,Qu,ZM];split
  ·exact .inl rfl
  ·rename_i h0;rcases Iq t m with h1 | h1
   ·omega
   ·rcases Ip ts (Ss t m) (by omega)with h2 | h2
    ·exact .inl h2
    ·right;omega
end
def Qfd (t:Tm) (bs:Qa) (m0:Int) (hm:m0 < 1000000) (ih: ∀x∈t.kids,∀(m:Int) bs,m < 1000000->call tb 102 [.agg (Qf x),.int .i64 m] bs=some (.int .i64 (Ss x m),bs)):
  ∀(post pre:Qc) (m:Int) (ρ:Ql),t.kids=pre ++ post->0<=m->m+pre.length<=m0->ρ 2= .bx (Qf t)->ρ 5= .int .i64 pre.length->ρ 1= .int .i64 m->
  R tb (.loop f102l0) ρ bs (Qq 0 (QI tb f102r0 (QK f102 bs)))=some (.int .i64 (Tv post m),bs):=by
 intro post
 induction post with
 | nil=>
  intro pre m ρ hk h0 hp h2 h5 h1;rw[Qe f102l0.eq_1];simp at hk;simp[h1,h2,h5,hk,f102r0,Tv]
 | cons x post IH=>
  intro pre m ρ hk h0 hp h2 h5 h1;have hg:=Qx hk;have hl:=QE hk;have hw1:=wr1 pre.length (by omega);have hlt:=QG hk;have hn:=XV x;rw[Qe f102l0.eq_1];rcases Iq x m with hb | hb
  ·simp[h1,h2,h5,hg,hw1,hlt,ih x (by rw[hk];simp) m bs (by omega),hb,Tv]
  ·have hb0: ¬Ss x m < 0:=by omega
   simp[h1,h2,h5,hg,hw1,hlt,ih x (by rw[hk];simp) m bs (by omega),hb0,Tv];rw[IH (pre ++ [x]) (Ss x m)] <;> first | omega | (simp[h1,h2,h5,hk];done) | (simp;omega)
def EO: ∀(t:Tm) (m:Int) (bs:Qa),m < 1000000->call tb 102 [.agg (Qf t),.int .i64 m] bs=some (.int .i64 (Ss t m),bs):=by
 refine Yj ?_;intro k n s ks ih m bs hm;rw[zcc 102 rfl rfl];have hn: (40 < (n.length:Int))=(40 < n.length):=by rw[WQ];omega
 simp[f102C,WL,hn,Ss];split
 ·rfl
 ·rename_i hc;have hw:IntKind.i64.wrap (m - 1)=m - 1:=Zg (by omega) (by omega);refine Qfd (.mk k n s ks) bs m hm (fun x hx=>ih x hx) ks [] (m - 1) _ ?_ ?_ ?_ ?_ ?_ ?_ <;> first | (simp[hw];done) | (simp;omega)
def few (l:Qc) (n:Nat) (m:Int):Bool:=decide (l.length<=n) && decide (0<=Tv l m)
def QfM (l:Qc) (o:Bool) (bs:Qa) (hl:l.length < 1000000):
  ∀(post pre:Qc) (m:Int) (ρ:Ql),l=pre ++ post->0<=m->m < 1000000->ρ 0= .sl o 4 (Qb l)->ρ 7= .int .i64 pre.length->ρ 2= .int .i64 m->
  R tb (.loop f101l0) ρ bs (Qq 0 (QI tb f101r0 (QK f101 bs)))=some (.bool (decide (0<=Tv post m)),bs):=by
 intro post
 induction post with
 | nil=>
  intro pre m ρ hk h0 hm hr0 h7 h2;rw[Qe f101l0.eq_1];simp at hk;simp[hr0,h7,h2,hk,f101r0,Tv,h0]
 | cons x post IH=>
  intro pre m ρ hk h0 hm hr0 h7 h2;have hg:=Qx hk;have hl:=QE hk;have hw1:=wr1 pre.length (by omega);have hlt:=QG hk;rw[Qe f101l0.eq_1];rcases Iq x m with hb | hb
  ·simp[hr0,h7,h2,hg,hw1,hlt,EO x m bs (by omega),hb,Tv]
  ·have hb0: ¬Ss x m < 0:=by omega
   simp[hr0,h7,h2,hg,hw1,hlt,EO x m bs (by omega),hb0,Tv];rw[IH (pre ++ [x]) (Ss x m)] <;> first | omega | (simp[hr0,h7,h2,hk];done)
def Kk (l:Qc) (o:Bool) (n:Nat) (m:Int) (bs:Qa) (hn:n < 1000000) (h0:0<=m) (hm:m < 1000000):
  call tb 101 [.sl o 4 (Qb l),.int .i64 n,.int .i64 m] bs=some (.bool (few l n m),bs):=by
 rw[zcc 101 rfl rfl];have e1: ((n:Int) < (l.length:Int))=(n < l.length):=by rw[WQ];omega
 simp[f101C,WL,few];split
 ·have: ¬l.length<=n:=by omega
  simp[this]
 ·have:l.length<=n:=by omega
  rw[QfM l false bs (by omega) l [] m] <;> simp[this,h0,hm]
end Go.Am
namespace Go.Am
set_option maxRecDepth 20000
def T1 (c:UInt8):Bool:=(97<=c.toNat && c.toNat<=122) || (65<=c.toNat && c.toNat<=90)
def PD (c:UInt8):Bool:=48<=c.toNat && c.toNat<=57
def TO (c:UInt8):SF c=(T1 c || PD c || c.toNat == 95 || c.toNat == 35):=rfl
def Tl (m n:Nat): ((m:Int)<=(n:Int))=(m<=n):=by rw[WQ];omega
def Oq (c:UInt8) (bs:Qa):call tb 58 [.int .u8 c.toNat] bs=some (.bool (T1 c),bs):=by
 rw[zcc 58 rfl rfl];have e1: ((97:Int)<=(c.toNat:Int))=(97<=c.toNat):=Tl 97 _;have e2: ((c.toNat:Int)<=122)=(c.toNat<=122):=Tl _ 122;have e3: ((65:Int)<=(c.toNat:Int))=(65<=c.toNat):=Tl 65 _;have e4: ((c.toNat:Int)<=90)=(c.toNat<=90):=Tl _ 90;simp[f58,f58C,T1,e1,e2,e3,e4]
def Js (c:UInt8) (bs:Qa):call tb 59 [.int .u8 c.toNat] bs=some (.bool (PD c),bs):=by
 rw[zcc 59 rfl rfl];have e1: ((48:Int)<=(c.toNat:Int))=(48<=c.toNat):=Tl 48 _;have e2: ((c.toNat:Int)<=57)=(c.toNat<=57):=Tl _ 57;simp[f59,f59C,PD,e1,e2]
def I6 (n:Nat): ((n:Int)=95)=(n=95):=by rw[WQ];omega
def I5 (n:Nat): ((n:Int)=35)=(n=35):=by rw[WQ];omega
def K1:=@Bool.or_eq_false_iff
def F0 (s:Qv) (bs:Qa) (hs:s.length < 4611686018427387904): ∀(post pre:Qv) (ρ:Ql),s=pre ++ post->ρ 0= .str s->ρ 3= .int .i64 pre.length->
  R tb (.loop f57l0) ρ bs (Qq 0 (QI tb f57r0 (QK f57 bs)))=some (.bool (post.all SF),bs):=by
 intro post
 induction post with
 | nil=>
  intro pre ρ hk h0 h3;rw[Qe f57l0.eq_1];simp at hk;simp[h0,h3,hk,f57r0]
 | cons x post IH=>
  intro pre ρ hk h0 h3;have hg:=Qx hk;have hl:=QE hk;have hw1:=wr1 pre.length (by omega);have hlt:=QG hk;rw[Qe f57l0.eq_1];cases hp:SF x
  ·rw[TO]at hp;simp only[K1]at hp;obtain⟨⟨⟨p1,p2⟩,p3⟩,p4⟩:=hp;have p3': ¬x.toNat=95:=by simpa using p3
   have p4': ¬x.toNat=35:=by simpa using p4
   simp[h0,h3,hg,hw1,hlt,Oq,Js,p1,p2,p3',p4',I6,I5,TO]
  ·simp[h0,h3,hg,hw1,hlt,Oq,Js,I6,I5,TO,WL];split
   ·rename_i hc;simp[TO,hc]at hp
   ·rw[IH (pre ++ [x])]
    ·simp[TO]at hp;simp[hp]
    ·simp[hk]
    ·simp[h0]
    ·simp
def F7:=@Bool.and_eq_false_iff
def QaI {c:UInt8} (h:T1 c=true):PD c=false/\(c.toNat == 95)=false/\(c.toNat == 35)=false:=by
 simp only[T1,Vz,Qo,Qy]at h;refine⟨?_,?_,?_⟩
 ·simp only[PD,F7,Sr];omega
 ·simp;omega
 ·simp;omega
def CQ (c:UInt8) (r:Qv):W3 (c:: r)=(decide (r.length < 24) && T1 c && (c:: r).all SF):=by
 have hd: (decide (48<=c.toNat) && decide (c.toNat<=57))=PD c:=rfl;simp only[W3,Sn,hd,bne];cases hl:T1 c
 ·rw[TO,hl];cases PD c <;> cases (c.toNat == 95) <;> cases (c.toNat == 35) <;> simp
 ·obtain⟨h1,h2,h3⟩:=QaI hl;rw[TO,hl,h1,h2,h3];simp
def EF (s:Qv) (bs:Qa) (hs:s.length < 4611686018427387904):call tb 57 [.str s] bs=some (.bool (W3 s),bs):=by
 rw[zcc 57 rfl rfl];cases s with
 | nil=>simp[f57C,W3]
 | cons c r=>
  have e1: (24 < (r.length:Int)+1)=¬(r.length < 24):=by rw[WQ];omega
  have e2: ((r.length:Int)+1=0)=False:=eq_false (by omega);rw[CQ];by_cases h1:r.length < 24 <;> cases h2:T1 c <;>
  simp[f57C,Oq,e1,e2,h1,h2,-List.all_cons];rw[F0 (c:: r) bs hs (c:: r) []] <;> (try simp)
end Go.Am
namespace Go.Am
set_option maxRecDepth 20000
def Wx: ∀a:Qv,Op.bytesLess a a=false
 | []=>rfl
 | c:: r=>by simp[Op.bytesLess,Wx r]
def I9 (a:Qv):Wz a a=0:=by simp[Wz,Wx]
def QgL (a:Int):sgn a a=0:=PT.2 rfl
def QfR (t:Tm):hdT t t=0:=by simp[hdT,QgL,I9,or0]
mutual
theorem Un: ∀t:Tm,Qp t t=0
 | .mk k n s ks=>by rw[Qp,QfR,Tr];exact I8 ks
theorem I8: ∀ts:List Tm,Xy ts ts=0
 | []=>by simp[Xy]
 | t:: ts=>by rw[Xy,Un t,Tr];exact I8 ts
end
def Ny {l:Qc} {n:Nat} {m:Int} (h0:0<=m) (h:few l n m=true):l.length<=n/\Qu l+l.length<=42*m.toNat/\Qw l<=m.toNat:=by
 simp only[few,Qo,Qy]at h;rcases Ip l m h0 with h1 | h1
 ·omega
 ·omega
end Go.Am
namespace Go.Am
set_option maxRecDepth 20000
def Qaj (t:Tm) (bs:Qa) (hm:t.mass < big) (ih: ∀x∈t.kids,∀bs,call tb 48 [.agg (Qf x)] bs=some (.agg (Qf x),bs)):
  ∀(post pre:Qc) (ρ:Ql),t.kids=pre ++ post->ρ 1= .bx [.int .i64 t.kind,.str t.name,.int .i64 t.sort,.sl true 4 (Qb pre)]->ρ 2= .bx [.int .i64 0,.str [],.int .i64 0,.sl true 4 []]->
   ρ 9= .sl false 4 (Qb t.kids)->ρ 10= .int .i64 t.kids.length->ρ 11= .int .i64 pre.length->
  R tb (.loop f48l0) ρ bs (Qq 0 (QI tb f48r0 (QK f48 bs)))=some (.agg (Qf t),bs):=by
 have hm2:=QH t;unfold big at hm;intro post
 induction post with
 | nil=>
  intro pre ρ hk h1 h2 h9 h10 h11;rw[Qe f48l0.eq_1];simp at hk;rw[<- hk]at h1 h11;simp[h1,h2,h9,h10,h11,f48r0,U5,Tm.eta]
 | cons x post IH=>
  intro pre ρ hk h1 h2 h9 h10 h11;have hg:=Qx hk;have hl:=QE hk;have hw1:=wr1 pre.length (by omega);have hlt:=QG hk;have ha: (pre.length+1)*56<=140737488355328:=by omega
  rw[Qe f48l0.eq_1];simp[h1,h2,h9,h10,h11,hg,hw1,hlt,ha,ih x (by rw[hk];simp),ZX,Zu];rw[IH (pre ++ [x])] <;> simp[h2,h9,h10,hk]
def Nj: ∀(t:Tm) (bs:Qa),t.mass < big->call tb 48 [.agg (Qf t)] bs=some (.agg (Qf t),bs):=by
 refine Yj ?_;intro k n s ks ih bs hm;rw[zcc 48 rfl rfl];simp[f48C,Qf];refine Qaj (.mk k n s ks) bs hm (fun x hx bs=>ih x hx bs ?_) ks [] _ ?_ ?_ ?_ ?_ ?_ ?_ <;> (try simp[Qb]);have:=QY hx;have:=QH (.mk k n s ks);simp at *;omega
def EN (n:Qv) (ks:Qc) (o:Bool) (bs:Qa):call tb 49 [.str n,.sl o 4 (Qb ks)] bs=some (.agg (Qf (.mk 3 n 0 ks)),bs):=by
 rw[zcc 49 rfl rfl];simp[f49,f49C,U5]
structure Sy where
 n:List UInt8
 l:Int
 m:Int
 k:Int
def VH (s:Sy):Qh:=[.str s.n,.int .i64 s.l,.int .i64 s.m,.int .i64 s.k]
def Wd:List Sy:=[⟨[112,97,105,114],2,2,1⟩,⟨[101,110,99],2,2,1⟩,⟨[97,101,110,99],2,2,1⟩,⟨[112,107],1,1,1⟩,⟨[115,105,103,110],2,2,1⟩,⟨[104,97,115,104],1,1,1⟩,
 ⟨[120,111,114],2,8,1⟩,⟨[122,101,114,111],0,0,1⟩,⟨[101,120,112],2,2,1⟩,⟨[109,117,108],2,8,1⟩,⟨[105,110,118],1,1,1⟩,⟨[111,110,101],0,0,1⟩,
 ⟨[115,107],1,1,2⟩,⟨[115,104,107],2,2,2⟩,⟨[110,101,119],1,8,2⟩,⟨[102,115,116],1,1,3⟩,⟨[115,110,100],1,1,3⟩,⟨[100,101,99],2,2,3⟩,⟨[97,100,101,99],2,2,3⟩,⟨[111,112,101,110],2,2,3⟩,⟨[114,101,97,100],1,1,3⟩]
def Vg (ys:List Sy):Qa:=ys.map VH
@[simp] def HX (ys:List Sy):ZU (Vg ys)=true:=by
 induction ys with
 | nil=>rfl
 | cons y ys ih=>simpa[Vg,VH,ZU,QV,AV.gpfree]using ih
@[simp] def Qqq (ys:List Sy): (Vg ys).length=ys.length:=by simp[Vg]
def EM (k l m:Int) (n:Qv) (ys:List Sy) (bs:Qa) (hx:ys.length < 1000):
  call tb 45 [.int .i64 k,.str n,.int .i64 l,.int .i64 m,.gp bs.length 0] (bs ++ [[.sl true 4 (Vg ys)]])=some (.tup [],bs ++ [[.sl true 4 (Vg (ys ++ [⟨n,l,m,k⟩]))]]):=by
 rw[zcc 45 rfl rfl];have ha: (ys.length+1)*40<=140737488355328:=by omega
 have h1:Vg (ys ++ [⟨n,l,m,k⟩])=Vg ys ++ [[.str n,.int .i64 l,.int .i64 m,.int .i64 k]]:=by simp[Vg,VH]
 have h2:ZU (Vg ys ++ [[.str n,.int .i64 l,.int .i64 m,.int .i64 k]])=true:=by rw[<- h1];exact HX _
 simp[f45,f45C,ha,h1,h2,YD,QV]
def Qdi (k l m:Int) (n:Qv) (bs:Qa):
  call tb 45 [.int .i64 k,.str n,.int .i64 l,.int .i64 m,.gp bs.length 0] (bs ++ [[.sl true 4 []]])=some (.tup [],bs ++ [[.sl true 4 (Vg [⟨n,l,m,k⟩])]]):=EM k l m n [] bs (by simp)
def EL (bs:Qa):call tb 44 [] bs=some (.sl false 4 (Vg Wd),bs):=by
 rw[zcc 44 rfl rfl];simp only[f44,f44C];simp[Qdi,EM,Wd]
def Yi (n:Qv):List Sy->Option Sy
 | []=>none
 | s:: ss=>if s.n=n then some s else Yi n ss
def La {l:List Sy} {pre post:List Sy} {s:Sy} (h:l=pre ++ s:: post): (Vg l)[pre.length]? =some (VH s):=by
 subst h;simp[Vg]
def C9 (n:Qv) (l:List Sy) (bs:Qa) (hn:l.length < 1000):
  ∀(post pre:List Sy) (ρ:Ql),l=pre ++ post->ρ 0= .str n->ρ 2= .bx [.str [],.int .i64 0,.int .i64 0,.int .i64 0]->
   ρ 5= .sl false 4 (Vg l)->ρ 6= .int .i64 l.length->ρ 7= .int .i64 pre.length->
  R tb (.loop f43l0) ρ bs (Qq 0 (QI tb f43r0 (QK f43 bs)))=
   some (.agg (match Yi n post with | some s=>VH s | none=>[.str [],.int .i64 0,.int .i64 0,.int .i64 0]),bs):=by
 intro post
 induction post with
 | nil=>
  intro pre ρ hk h0 h2 h5 h6 h7;rw[Qe f43l0.eq_1];simp at hk;rw[<- hk]at h7;simp[h0,h2,h5,h6,h7,f43r0,Yi]
 | cons x post IH=>
  intro pre ρ hk h0 h2 h5 h6 h7;have hg:=La hk;have hl:=QE hk;have hw1:=wr1 pre.length (by omega);have hlt:=QG hk;rw[Qe f43l0.eq_1];by_cases hx:x.n=n
  ·simp[h0,h2,h5,h6,h7,hg,hw1,hlt,VH,hx,Yi]
  ·have hxb: (x.n == n)=false:=by simp[hx]
   simp[h0,h2,h5,h6,h7,hg,hw1,hlt,VH,hx,hxb,Yi];rw[IH (pre ++ [x])] <;> simp[h0,h2,h5,h6,hk,VH]
def WI (n:Qv) (bs:Qa):call tb 43 [.str n] bs=some (.agg (match Yi n Wd with | some s=>VH s | none=>[.str [],.int .i64 0,.int .i64 0,.int .i64 0]),bs):=by
 rw[zcc 43 rfl rfl];simp[f43C,EL];refine C9 n Wd bs (by simp[Wd]) Wd [] _ rfl ?_ ?_ ?_ ?_ ?_ <;> simp
end Go.Am
namespace Go.Am
set_option maxRecDepth 20000
def To (k:Tm):Bool:=k.kind == 3 || k.sort != 1
mutual
def XS:Tm->Int
 | .mk k n _ ks=>if k≠3 then 0 else match Yi n Wd with
  | none=>10
  | some y=>if(ks.length:Int) < y.l\/y.m < ks.length then 6 else if(n=[115,107]\/n=[115,104,107])/\ks.any To then 10
   else if n=[110,101,119]/\ks.head?.map Tm.kind≠some 2 then 10 else Su ks
def Su:List Tm->Int
 | []=>0
 | t:: ts=>if XS t≠0 then XS t else Su ts
end
def Qfn (t:Tm) (bs:Qa) (hm:t.mass < big) (ih: ∀x∈t.kids,∀bs,call tb 42 [.agg (Qf x)] bs=some (.int .i64 (XS x),bs)):
  ∀(post pre:Qc) (ρ:Ql),t.kids=pre ++ post->ρ 62= .sl false 4 (Qb t.kids)->ρ 63= .int .i64 t.kids.length->ρ 64= .int .i64 pre.length->
  R tb (.loop f42l1) ρ bs (Qq 3 (QI tb f42r0 (QK f42 bs)))=some (.int .i64 (Su post),bs):=by
 have hm2:=QH t;unfold big at hm;intro post
 induction post with
 | nil=>
  intro pre ρ hk h1 h2 h3;rw[Qe f42l1.eq_1];simp at hk;rw[<- hk]at h3;simp[h1,h2,h3,f42r0,Su]
 | cons x post IH=>
  intro pre ρ hk h1 h2 h3;have hg:=Qx hk;have hl:=QE hk;have hw1:=wr1 pre.length (by omega);have hlt:=QG hk;rw[Qe f42l1.eq_1];by_cases hc:XS x=0
  ·simp[h1,h2,h3,hg,hw1,hlt,ih x (by rw[hk];simp),hc,Su];rw[IH (pre ++ [x])] <;> simp[h1,h2,hk]
  ·simp[h1,h2,h3,hg,hw1,hlt,ih x (by rw[hk];simp),hc,Su]
def ER (t:Tm) (bs:Qa) (hm:t.mass < big) (ih: ∀x∈t.kids,∀bs,call tb 42 [.agg (Qf x)] bs=some (.int .i64 (XS x),bs)) (ρ:Ql) (h1:ρ 1= .bx (Qf t)):
  R tb f42r1 ρ bs (QK f42 bs)=some (.int .i64 (Su t.kids),bs):=by
 simp[f42r1,h1,Zj];refine Qfn t bs hm ih t.kids [] _ rfl ?_ ?_ ?_ <;> simp
def Qfm (t:Tm) (bs:Qa) (hm:t.mass < big) (ih: ∀x∈t.kids,∀bs,call tb 42 [.agg (Qf x)] bs=some (.int .i64 (XS x),bs)):
  ∀(post pre:Qc) (ρ:Ql),t.kids=pre ++ post->ρ 1= .bx (Qf t)->ρ 38= .sl false 4 (Qb t.kids)->ρ 39= .int .i64 t.kids.length->ρ 40= .int .i64 pre.length->
  R tb (.loop f42l0) ρ bs (Qq 1 (Qq 0 (QI tb f42r1 (QK f42 bs))))=some (.int .i64 (if post.any To then 10 else Su t.kids),bs):=by
 have hm2:=QH t;have hm0:=hm;unfold big at hm;intro post
 induction post with
 | nil=>
  intro pre ρ hk h0 h1 h2 h3;rw[Qe f42l0.eq_1];simp at hk;rw[<- hk]at h3;simp[h0,h1,h2,h3];rw[ER t bs hm0 ih] <;> simp[h0]
 | cons x post IH=>
  intro pre ρ hk h0 h1 h2 h3;have hg:=Qx hk;have hl:=QE hk;have hw1:=wr1 pre.length (by omega);have hlt:=QG hk;rw[Qe f42l0.eq_1];by_cases h3':x.kind=3
  ·simp[h0,h1,h2,h3,hg,hw1,hlt,Zj,h3',To]
  ·by_cases h4:x.sort=1
   ·have hb:To x=false:=by simp[To,h3',h4]
    have hb3: (x.kind == 3)=false:=by simp[h3']
    simp[h0,h1,h2,h3,hg,hw1,hlt,Zj x,h3',h4,hb,hb3];rw[IH (pre ++ [x])] <;> simp[h0,h1,h2,hk,hb]
   ·have hb:To x=true:=by simp[To,h4]
    have hb3: (x.kind == 3)=false:=by simp[h3']
    have hb4: (x.sort != 1)=true:=by simp[h4]
    simp[h0,h1,h2,h3,hg,hw1,hlt,Zj x,h3',h4,hb,hb3,hb4]
def NA {n:Qv} {y:Sy}: ∀{l:List Sy},Yi n l=some y->y∈l/\y.n=n
 | [],h=>by simp[Yi]at h
 | s:: ss,h=>by
  simp only[Yi]at h;split at h
  ·rename_i e;injection h with h;subst h;exact⟨by simp,e⟩
  ·have:=NA h;exact⟨OK _ this.1,this.2⟩
def QeH {y:Sy} (h:y∈Wd):y.k≠0/\(y.n=[110,101,119]->y.l=1):=by
 have:Wd.all (fun y=>y.k≠0/\(y.n=[110,101,119]->y.l=1))=true:=by decide
 have:=XM.1 this y h;simpa only[Qy]using this
def EP: ∀(t:Tm) (bs:Qa),t.mass < big->call tb 42 [.agg (Qf t)] bs=some (.int .i64 (XS t),bs):=by
 refine Yj ?_;intro k n s ks ih bs hm;have hmk:=QH (.mk k n s ks);have ih': ∀x∈(Tm.mk k n s ks).kids,∀bs,call tb 42 [.agg (Qf x)] bs=some (.int .i64 (XS x),bs):=fun x hx bs=>ih x hx bs (by
  have:=QY hx;simp at *;omega)
 have r1:=fun ρ h=>ER (.mk k n s ks) bs hm ih' ρ h;have l0:=fun ρ h0 h1 h2 h3=>Qfm (.mk k n s ks) bs hm ih' ks [] ρ rfl h0 h1 h2 h3;simp only[Qf,Zs,Y5]at r1 l0;rw[zcc 42 rfl rfl];by_cases hk:k=3
 ·subst hk;cases hy:Yi n Wd with
  | none=>simp[f42C,Qf,WI,hy,XS]
  | some y=>
   obtain⟨hy1,hy2⟩:=NA hy;obtain⟨hy3,hy4⟩:=QeH hy1;by_cases ha: (ks.length:Int) < y.l
   ·simp[f42C,Qf,WI,hy,hy3,ha,VH,XS]
   ·by_cases hb:y.m < (ks.length:Int)
    ·simp[f42C,Qf,WI,hy,hy3,ha,hb,VH,XS]
    ·by_cases h1:n=[115,107]
     ·subst h1;simp[f42C,Qf,WI,hy,hy3,ha,hb,VH,XS];rw[l0] <;> simp
     ·by_cases h2:n=[115,104,107]
      ·subst h2;simp[f42C,Qf,WI,hy,hy3,ha,hb,VH,XS];rw[l0] <;> simp
      ·have b1: (n == [115,107])=false:=by simp[h1]
       have b2: (n == [115,104,107])=false:=by simp[h2]
       by_cases h3:n=[110,101,119]
       ·subst h3;have hl:=hy4 hy2;cases ks with
        | nil=>simp at ha;omega
        | cons x xs=>
         have ha': ¬((xs.length:Int)+1 < y.l):=by simpa using ha
         have hb': ¬(y.m < (xs.length:Int)+1):=by simpa using hb
         by_cases hx:x.kind=2
         ·simp[f42C,Qf,Qb,Zj x,WI,hy,hy3,ha',hb',VH,XS,hx]at *;refine(r1 _ ?_).trans ?_ <;> simp[Qb,Zj x]
         ·simp[f42C,Qf,Qb,Zj x,WI,hy,hy3,ha',hb',VH,XS,hx]
       ·have b3: (n == [110,101,119])=false:=by simp[h3]
        simp[f42C,Qf,WI,hy,hy3,ha,hb,VH,XS,h1,h2,h3,b1,b2,b3];rw[r1] <;> simp
 ·simp[f42C,Qf,hk,XS]
def thV (t:Tm):Int:=if Q1 t≠0 then Q1 t else XS t
def PC (t:Tm) (bs:Qa) (hm:t.mass < big):call tb 41 [.agg (Qf t)] bs=some (.int .i64 (thV t),bs):=by
 rw[zcc 41 rfl rfl];have h1:=Us t bs hm;have h2:=EP t bs hm;rw[Zj]at *;by_cases h:Q1 t=0
 ·simp[f41C,h1,h2,h,thV]
 ·simp[f41C,h1,h,thV]
end Go.Am
