/-
  Am21, Am22, Am23, Ge1, Ge2, Ge3, Ge4, Ge5, Ge6, Ge10, Ge11, Ge12.
-/
import Derived.Test.YtjkjecpalfmohaaGreatDoorG10
import Derived.Test.YtjkjecpalfmohaaGreatDoorG14
set_option linter.all false
open Go.Am.F
namespace Go.Am
abbrev Out:=Option (AV×List (List AV))
abbrev Kn:=Ex->St->Out
section
variable {T:Nat->Option AFn}
noncomputable def R (T:VC) (c:AC) (ρ:Ql) (bs:Qa) (k:Kn):Out:=match run T c ⟨ρ,bs⟩with
 | some (e,s)=>k e s
 | none=>none
noncomputable def O (T:VC) (os:Yw) (ρ:Ql) (bs:Qa) (k:Kn):Out:=match Yi (call T) os ⟨ρ,bs⟩with
 | some s=>k .normal s
 | none=>none
noncomputable def E (T:VC) (r:Option (AV×St)) (d:YW) (os:Yw) (k:Kn):Out:=match r with
 | some p=>O T os (YO p.2.env d p.1) p.2.bs k
 | none=>none
def XU (c b:Bool) (x y:Out):Out:=if c=b then x else y
noncomputable def QB (T:VC) (b:AC) (k:Kn):Kn:=fun e s=>match e with
 | .normal=>match run T b s with
  | some (e,s)=>k e s
  | none=>none
 | e=>k e s
def Qo (id:Nat) (k:Kn):Kn:=fun e s=>match e with
 | .exit i=>k (if i=id then .normal else .exit i) s
 | e=>k e s
def QN (fn:Zo) (n:Qa):Kn:=fun e s=>match e with
 | .normal=>XF fn n s
 | .ret=>XF fn n s
 | .exit _=>none
def LM (x y:Out):XU true true x y=x:=rfl
def H0 (x y:Out):XU false false x y=x:=rfl
def H1 (x y:Out):XU true false x y=y:=rfl
def LL (x y:Out):XU false true x y=y:=rfl
def Bs (c b:Bool) (x:Out):XU c b x x=x:=by unfold XU;split <;> rfl
def Qbe (c b:Bool) (x y:Out):XU (!c) b x y=XU c (!b) x y:=by cases c <;> cases b <;> rfl
def WU (c b:Bool) (x y:Out):XU c b x y=if c=b then x else y:=rfl
def Qot (ρ:Ql) (bs:Qa) (k:Kn):R T .skip ρ bs k=k .normal ⟨ρ,bs⟩:=by simp only[R,CK]
def Qqm (ρ:Ql) (bs:Qa) (k:Kn):R T .ret ρ bs k=k .ret ⟨ρ,bs⟩:=by simp only[R,Qaa]
def Qor (id:Nat) (ρ:Ql) (bs:Qa) (k:Kn):R T (.exit id) ρ bs k=k (.exit id) ⟨ρ,bs⟩:=by simp only[R,CG]
def Qql (d:Bool) (ops:Yw) (ρ:Ql) (bs:Qa) (k:Kn):R T (.reg d ops) ρ bs k=O T ops ρ bs k:=by
 simp only[R,O,A9];cases Yi (call T) ops ⟨ρ,bs⟩ <;> rfl
def Qqn (a b:AC) (ρ:Ql) (bs:Qa) (k:Kn):R T (.seq a b) ρ bs k=R T a ρ bs (QB T b k):=by
 simp only[R,Qab];cases run T a ⟨ρ,bs⟩with
 | none=>rfl
 | some x=>
  obtain⟨e,s⟩:=x;cases e <;> rfl
def Qis (id:Nat) (c:AC) (ρ:Ql) (bs:Qa) (k:Kn):R T (.block id c) ρ bs k=R T c ρ bs (Qo id k):=by
 simp only[R,Gf];cases run T c ⟨ρ,bs⟩with
 | none=>rfl
 | some x=>
  obtain⟨e,s⟩:=x;cases e <;> rfl
def Qos (c:AC) (ρ:Ql) (bs:Qa) (k:Kn):R T (.loop c) ρ bs k=R T c ρ bs (QB T (.loop c) k):=by
 simp only[R];rw[CJ];cases run T c ⟨ρ,bs⟩with
 | none=>rfl
 | some x=>
  obtain⟨e,s⟩:=x;cases e <;> rfl
def BL (b:AC) (k:Kn) (ρ:Ql) (bs:Qa):QB T b k .normal ⟨ρ,bs⟩=R T b ρ bs k:=rfl
def QhF (b:AC) (k:Kn) (s:St):QB T b k .ret s=k .ret s:=rfl
def Qfn (b:AC) (k:Kn) (s:St) (id:Nat):QB T b k (.exit id) s=k (.exit id) s:=rfl
def Gp (id:Nat) (k:Kn) (s:St):Qo id k .normal s=k .normal s:=rfl
def QaL (id:Nat) (k:Kn) (s:St):Qo id k .ret s=k .ret s:=rfl
def C9 (id:Nat) (k:Kn) (s:St):Qo id k (.exit id) s=k .normal s:=by simp[Qo]
def I2 (id i:Nat) (h: (i == id)=false) (k:Kn) (s:St):Qo id k (.exit i) s=k (.exit i) s:=by
 have:i≠id:=by simpa using h
 simp[Qo,this]
def Bn (fn:Zo) (k:Qa) (s:St):QN fn k .normal s=XF fn k s:=rfl
def QgI (fn:Zo) (k:Qa) (s:St):QN fn k .ret s=XF fn k s:=rfl
noncomputable def Qa1 (T:VC) (v:AV) (n:Nat) (a b:AC) (ρ:Ql) (bs:Qa) (k:Kn):Out:=match v with
 | .bool c=>XU c true (R T a (upd ρ n (.bool true)) bs k) (R T b (upd ρ n (.bool false)) bs k)
 | _=>none
def Uy {ρ:Ql} {n:Nat} {v:AV} (h:ρ n=v):upd ρ n v=ρ:=by
 funext j;unfold upd;split
 ·rename_i hj;rw[hj,h]
 ·rfl
def Qoq (n:Nat) (a b:AC) (ρ:Ql) (bs:Qa) (k:Kn):R T (.cond (.t n) a b) ρ bs k=Qa1 T (ρ n) n a b ρ bs k:=by
 simp only[R,CF,val,Qa1];cases h:ρ n <;> try rfl
 rename_i c;cases c
 ·simp only[AV.strip,LL,Uy h]
 ·simp only[AV.strip,LM,Uy h]
def Qa2 (c:Bool) (n:Nat) (a b:AC) (ρ:Ql) (bs:Qa) (k:Kn):
  Qa1 T (.bool c) n a b ρ bs k=XU c true (R T a (upd ρ n (.bool true)) bs k) (R T b (upd ρ n (.bool false)) bs k):=rfl
def Qp0 (ρ:Ql) (bs:Qa) (k:Kn):O T [] ρ bs k=k .normal ⟨ρ,bs⟩:=rfl
def QlI (d:YW) (op:AOp) (os:Yw) (ρ:Ql) (bs:Qa) (k:Kn):
  O T (⟨d,op,none⟩:: os) ρ bs k=E T (Qi (call T) op ⟨ρ,bs⟩) d os k:=by
 simp only[O,E,Yi,Yf];cases Qi (call T) op ⟨ρ,bs⟩ <;> rfl
noncomputable def Ih (T:VC) (v:AV) (t:Nat) (b:Bool) (d:YW) (op:AOp) (os:Yw) (ρ:Ql) (bs:Qa) (k:Kn):Out:=match v with
 | .bool c=>XU c b (E T (Qi (call T) op ⟨upd ρ t (.bool b),bs⟩) d os k) (O T os (YO (upd ρ t (.bool (!b))) d (.tup [])) bs k)
 | .tup []=>O T os (YO ρ d (.tup [])) bs k
 | _=>none
def UD (d:YW) (op:AOp) (t:Nat) (b:Bool) (os:Yw) (ρ:Ql) (bs:Qa) (k:Kn):
  O T (⟨d,op,some (t,b)⟩:: os) ρ bs k=Ih T (ρ t) t b d op os ρ bs k:=by
 simp only[O,Yi,Yf,Ih];cases h:ρ t <;> try rfl
 ·rename_i c;by_cases hcb:c=b
  ·subst hcb;simp only[XU,Zj,Uy h,E];cases Qi (call T) op ⟨ρ,bs⟩ <;> rfl
  ·have hcb2:c= !b:=by cases c <;> cases b <;> simp_all
   subst hcb2;simp only[XU,hcb,Zi,Uy h];rfl
 ·rename_i vs;cases vs <;> rfl
def U4 (c:Bool) (t:Nat) (b:Bool) (d:YW) (op:AOp) (os:Yw) (ρ:Ql) (bs:Qa) (k:Kn):
  Ih T (.bool c) t b d op os ρ bs k=XU c b (E T (Qi (call T) op ⟨upd ρ t (.bool b),bs⟩) d os k) (O T os (YO (upd ρ t (.bool (!b))) d (.tup [])) bs k):=rfl
def Ii (t:Nat) (b:Bool) (d:YW) (op:AOp) (os:Yw) (ρ:Ql) (bs:Qa) (k:Kn):
  Ih T (.tup []) t b d op os ρ bs k=O T os (YO ρ d (.tup [])) bs k:=rfl
def QlF (v:AV) (ρ:Ql) (bs:Qa) (d:Nat) (os:Yw) (k:Kn):E T (some (v,⟨ρ,bs⟩)) (some d) os k=O T os (upd ρ d v) bs k:=rfl
def Qin (v:AV) (ρ:Ql) (bs:Qa) (os:Yw) (k:Kn):E T (some (v,⟨ρ,bs⟩)) none os k=O T os ρ bs k:=rfl
def QlE (d:YW) (os:Yw) (k:Kn):E T none d os k=none:=rfl
def Qfp (ρ:Ql) (d:Nat) (v:AV):YO ρ (some d) v=upd ρ d v:=rfl
def Qfo (ρ:Ql) (v:AV):YO ρ none v=ρ:=rfl
def OB {f:Nat} {fn:Zo} (h:T f=some (.code fn)) (args:Qh) (bs:Qa) (hl:args.length=fn.nparams):
  call T f args bs=R T fn.body (XS args) bs (QN fn bs):=by
 rw[Ha,h];simp only[hl,Zj,R];cases run T fn.body ⟨XS args,bs⟩with
 | none=>rfl
 | some x=>
  obtain⟨e,s⟩:=x;cases e <;> rfl
def Ws {f:Nat} {g:Qh->Qa->Option (AV×Qa)} (h:T f=some (.orc g)) (args:Qh) (bs:Qa):call T f args bs=g args bs:=by
 rw[Ha,h]
def QfZ (a:AV) (aq:Qh):XS (a:: aq) 0=a.strip:=rfl
def C8 (a:AV) (aq:Qh) (i:Nat):XS (a:: aq) (i+1)=XS aq i:=rfl
def Tz (ρ:Ql) (i:Nat) (v:AV):upd ρ i v i=v:=by simp[upd]
variable {K:Yy} (ρ:Nat->AV) (bs:List (List AV))
def Qrz (n:Nat):val ρ (.t n)=(ρ n).strip:=rfl
def Qry (v:AV):val ρ (.c v)=v:=rfl
end
end Go.Am
namespace Go.Am
section
variable {T:Nat->Option AFn}
def Od (b:Bool):AV->Bool
 | .bool c=>c == !b
 | .tup []=>true
 | _=>false
noncomputable def O2 (T:VC) (c:Bool) (_t:Nat) (b:Bool) (os:Yw) (ρ1 ρ2:Ql) (bs1 bs2:Qa) (k:Kn):Out:=
 if c=b then O T os ρ1 bs1 k else O T os ρ2 bs2 k
noncomputable def E2 (T:VC) (c:Bool) (_t:Nat) (b:Bool) (r:Option (AV×St)) (d:YW) (os:Yw) (ρ2:Ql) (bs2:Qa) (k:Kn):Out:=
 if c=b then E T r d os k else O T os (YO ρ2 d (.tup [])) bs2 k
def YN (c b:Bool) (x y:AV):AV:=if c=b then x else y
def Jh (c b:Bool) (x y:Qa):Qa:=if c=b then x else y
def mrg (c b:Bool) (ρ1 ρ2:Ql):Ql:=fun j=>YN c b (ρ1 j) (ρ2 j)
def QkJ (c b:Bool) (ρ1 ρ2:Ql) (j:Nat):mrg c b ρ1 ρ2 j=YN c b (ρ1 j) (ρ2 j):=rfl
def BS (c:Bool) (t:Nat) (b:Bool) (os:Yw) (ρ1 ρ2:Ql) (bs1 bs2:Qa) (k:Kn):
  O2 T c t b os ρ1 ρ2 bs1 bs2 k=O T os (mrg c b ρ1 ρ2) (Jh c b bs1 bs2) k:=by
 unfold O2;split
 ·rename_i h;have:mrg c b ρ1 ρ2=ρ1:=by funext j;simp[mrg,YN,h]
  rw[this,Jh,Qn h]
 ·rename_i h;have:mrg c b ρ1 ρ2=ρ2:=by funext j;simp[mrg,YN,h]
  rw[this,Jh,Qm h]
def QlH (c:Bool) (t:Nat) (b:Bool) (ρ1 ρ2:Ql) (bs1 bs2:Qa) (k:Kn):
  O2 T c t b [] ρ1 ρ2 bs1 bs2 k=O T [] (mrg c b ρ1 ρ2) (Jh c b bs1 bs2) k:=BS c t b [] ρ1 ρ2 bs1 bs2 k
def Qip (c:Bool) (t:Nat) (b:Bool) (d:YW) (op:AOp) (os:Yw) (ρ1 ρ2:Ql) (bs1 bs2:Qa) (k:Kn):
  O2 T c t b (⟨d,op,none⟩:: os) ρ1 ρ2 bs1 bs2 k=O T (⟨d,op,none⟩:: os) (mrg c b ρ1 ρ2) (Jh c b bs1 bs2) k:=BS c t b _ ρ1 ρ2 bs1 bs2 k
def QfN (c:Bool) (t:Nat) (b:Bool) (d:YW) (op:AOp) (t':Nat) (b':Bool) (os:Yw) (ρ1 ρ2:Ql) (bs1 bs2:Qa) (k:Kn) (_h: ((t' == t) && (b' == b))=false):
  O2 T c t b (⟨d,op,some (t',b')⟩:: os) ρ1 ρ2 bs1 bs2 k=XU c b (O T (⟨d,op,some (t',b')⟩:: os) ρ1 bs1 k) (O T (⟨d,op,some (t',b')⟩:: os) ρ2 bs2 k):=by
 unfold O2 XU;rfl
def Qiq (c:Bool) (t:Nat) (b:Bool) (d:YW) (op:AOp) (os:Yw) (ρ1 ρ2:Ql) (bs1 bs2:Qa) (k:Kn) (h1:ρ1 t= .bool b) (h2:Od b (ρ2 t)=true):
  O2 T c t b (⟨d,op,some (t,b)⟩:: os) ρ1 ρ2 bs1 bs2 k=E2 T c t b (Qi (call T) op ⟨ρ1,bs1⟩) d os ρ2 bs2 k:=by
 unfold O2 E2;split
 ·rw[UD,h1,U4,WU,Qn rfl,Uy h1]
 ·rw[UD];unfold Od at h2;split at h2
  ·rename_i c hc;rw[hc,U4];simp only[Up]at h2;subst h2;rw[WU,Qm (by cases b <;> simp),Uy hc]
  ·rename_i hc;rw[hc,Ii]
  ·cases h2
def Qim (c:Bool) (t:Nat) (b:Bool) (v:AV) (ρ1:Ql) (bs1:Qa) (d:YW) (os:Yw) (ρ2:Ql) (bs2:Qa) (k:Kn):
  E2 T c t b (some (v,⟨ρ1,bs1⟩)) d os ρ2 bs2 k=O2 T c t b os (YO ρ1 d v) (YO ρ2 d (.tup [])) bs1 bs2 k:=rfl
noncomputable def G (T:VC) (v:AV) (d:YW) (op:AOp) (t:Nat) (b:Bool) (os:Yw) (ρ:Ql) (bs:Qa) (k:Kn):Out:=match v with
 | .bool c=>O2 T c t b (⟨d,op,some (t,b)⟩:: os) (upd ρ t (.bool b)) (upd ρ t (.bool (!b))) bs bs k
 | .tup []=>O T os (YO (upd ρ t (.tup [])) d (.tup [])) bs k
 | _=>none
def O7 (c:Bool) (d:YW) (op:AOp) (t:Nat) (b:Bool) (os:Yw) (ρ:Ql) (bs:Qa) (k:Kn):
  G T (.bool c) d op t b os ρ bs k=O2 T c t b (⟨d,op,some (t,b)⟩:: os) (upd ρ t (.bool b)) (upd ρ t (.bool (!b))) bs bs k:=rfl
def QhW (d:YW) (op:AOp) (t:Nat) (b:Bool) (os:Yw) (ρ:Ql) (bs:Qa) (k:Kn):
  G T (.tup []) d op t b os ρ bs k=O T os (YO (upd ρ t (.tup [])) d (.tup [])) bs k:=rfl
def Qir (d:YW) (op:AOp) (t:Nat) (b:Bool) (os:Yw) (ρ:Ql) (bs:Qa) (k:Kn):
  O T (⟨d,op,some (t,b)⟩:: os) ρ bs k=G T (ρ t) d op t b os ρ bs k:=by
 cases h:ρ t <;> try (rw[UD,h];rfl)
 ·rename_i c;rw[O7];unfold O2;by_cases hcb:c=b
  ·subst hcb;simp[Uy h]
  ·have hcb2:c= !b:=by cases c <;> cases b <;> simp_all
   subst hcb2;rw[Uy h,Qm hcb]
 ·rename_i vs;cases vs with
  | nil=>rw[QhW,UD,h,Ii,Uy h]
  | cons v vs=>rw[UD,h];rfl
def QlG (d:YW) (op:AOp) (t:Nat) (os:Yw) (ρ:Ql) (bs:Qa) (k:Kn):
  G T (.bool true) d op t true os ρ bs k=E T (Qi (call T) op ⟨upd ρ t (.bool true),bs⟩) d os k:=by
 rw[O7];unfold O2;rw[Qn rfl,UD,Tz,U4,LM,Uy (Tz _ _ _)]
def Qio (d:YW) (op:AOp) (t:Nat) (os:Yw) (ρ:Ql) (bs:Qa) (k:Kn):
  G T (.bool false) d op t false os ρ bs k=E T (Qi (call T) op ⟨upd ρ t (.bool false),bs⟩) d os k:=by
 rw[O7];unfold O2;rw[Qn rfl,UD,Tz,U4,H0,Uy (Tz _ _ _)]
def QrH (d:YW) (op:AOp) (t:Nat) (os:Yw) (ρ:Ql) (bs:Qa) (k:Kn):
  G T (.bool true) d op t false os ρ bs k=O T os (YO (upd ρ t (.bool true)) d (.tup [])) bs k:=by
 rw[O7];unfold O2;rw[Qm (by simp),UD,Tz];simp only[U4,H1,Bool.not_false];rw[Uy (Tz _ _ _)]
def QrG (d:YW) (op:AOp) (t:Nat) (os:Yw) (ρ:Ql) (bs:Qa) (k:Kn):
  G T (.bool false) d op t true os ρ bs k=O T os (YO (upd ρ t (.bool false)) d (.tup [])) bs k:=by
 rw[O7];unfold O2;rw[Qm (by simp),UD,Tz];simp only[U4,LL,Nt];rw[Uy (Tz _ _ _)]
def Qfk (c b:Bool) (x:AV):YN c b x x=x:=by unfold YN;split <;> rfl
def Qfh (c b:Bool) (x:Qa):Jh c b x x=x:=by unfold Jh;split <;> rfl
def QpP (c b:Bool) (x y z:AV):YN c b (YN c b x y) z=YN c b x z:=by unfold YN;split <;> simp_all
def QpQ (c b:Bool) (x y z:AV):YN c b x (YN c b y z)=YN c b x z:=by unfold YN;split <;> simp_all
def Qlh (c:Bool) (x y z:AV):YN c true (YN c false x y) z=YN c true y z:=by cases c <;> rfl
def Qli (c:Bool) (x y z:AV):YN c true x (YN c false y z)=YN c true x y:=by cases c <;> rfl
def Qle (c:Bool) (x y z:AV):YN c false (YN c true x y) z=YN c false y z:=by cases c <;> rfl
def Qlf (c:Bool) (x y z:AV):YN c false x (YN c true y z)=YN c false x y:=by cases c <;> rfl
def Qfm (c:Bool) (x y:AV):YN c false x y=YN c true y x:=by cases c <;> rfl
def QhD (x y:AV):YN true true x y=x:=rfl
def Qfj (x y:AV):YN false true x y=y:=rfl
def Qfi (c x y:Bool):YN c true (.bool x) (.bool y)= .bool (bif c then x else y):=by cases c <;> rfl
def QhC (c:Bool) (k:IntKind) (x y:Int):YN c true (.int k x) (.int k y)= .int k (bif c then x else y):=by cases c <;> rfl
def QbU (c b:Bool) (x y:AV): (YN c b x y).strip=YN c b x.strip y.strip:=by unfold YN;split <;> rfl
def Qlg (c b:Bool) (x y:AV): (YN c b x y).ok=if c=b then x.ok else y.ok:=by unfold YN;split <;> rfl
def QhE (c b:Bool) (x y:AV): (YN c b x y).one=if c=b then x.one else y.one:=by unfold YN;split <;> rfl
def Qfl (c b d:Bool) (x y:AV):Od d (YN c b x y)=if c=b then Od d x else Od d y:=by unfold YN;split <;> rfl
def Bw (c b:Bool):Od b (.bool c)=(c == !b):=rfl
def Qbi (b:Bool):Od b (.tup [])=true:=rfl
def Qby (v x y:AV) (s:St):Option (AV×St):=match v with
 | .bool c=>let v:=YN c true x y;if v.ok then some (v,s)else none
 | _=>none
def QoQ {K:Yy} (c a b:AO) (ρ:Ql) (bs:Qa):Qi K (.pick c a b) ⟨ρ,bs⟩=Qby (val ρ c) (val ρ a) (val ρ b) ⟨ρ,bs⟩:=by
 simp only[Qi,Qby];cases val ρ c <;> try rfl
 rename_i x;cases x <;> rfl
def Qbz (c:Bool) (x y:AV) (s:St):Qby (.bool c) x y s=if(YN c true x y).ok then some (YN c true x y,s)else none:=rfl
end
end Go.Am
namespace Go.Am
def Qlx (ρ:Ql) (i:Nat) (v:AV) (j:Nat):upd ρ i v j=if j=i then v else ρ j:=rfl
def GG:AV.strip (.undef)= .undef:=rfl
def QbL:AV.ok (.undef)=false:=rfl
def BE:AV.one (.undef)=false:=rfl
def BD:AV.gpfree (.undef)=true:=rfl
def BH (k:IntKind) (n:Int):AV.strip (.int k n)= .int k n:=rfl
def Qhr (k:IntKind) (n:Int):AV.ok (.int k n)=true:=rfl
def Qfd (k:IntKind) (n:Int):AV.one (.int k n)=true:=rfl
def Qe4 (k:IntKind) (n:Int):AV.gpfree (.int k n)=true:=rfl
def CM (b:Bool):AV.strip (.bool b)= .bool b:=rfl
def Qe9 (b:Bool):AV.ok (.bool b)=true:=rfl
def QbN (b:Bool):AV.one (.bool b)=true:=rfl
def QbJ (b:Bool):AV.gpfree (.bool b)=true:=rfl
def BI:AV.strip (.nlp)= .nlp:=rfl
def Qhs:AV.ok (.nlp)=true:=rfl
def Qfe:AV.one (.nlp)=true:=rfl
def Qe5:AV.gpfree (.nlp)=true:=rfl
def CL:AV.strip (.anyb)= .anyb:=rfl
def Qe8:AV.ok (.anyb)=true:=rfl
def QbM:AV.one (.anyb)=true:=rfl
def QbI:AV.gpfree (.anyb)=true:=rfl
def BJ (s:Qu):AV.strip (.str s)= .str s:=rfl
def Qht (s:Qu):AV.ok (.str s)=true:=rfl
def Qff (s:Qu):AV.one (.str s)=true:=rfl
def Qe6 (s:Qu):AV.gpfree (.str s)=true:=rfl
def BF (cs:Qh):AV.strip (.agg cs)= .agg cs:=rfl
def Qhp (cs:Qh):AV.ok (.agg cs)=true:=rfl
def Qfb (cs:Qh):AV.one (.agg cs)=false:=rfl
def Qe2 (cs:Qh):AV.gpfree (.agg cs)=QY cs:=rfl
def QbT (o:Bool) (z:Nat) (xs:Qa):AV.strip (.sl o z xs)= .sl false z xs:=rfl
def Qlc (o:Bool) (z:Nat) (xs:Qa):AV.ok (.sl o z xs)=true:=rfl
def Qhz (o:Bool) (z:Nat) (xs:Qa):AV.one (.sl o z xs)=true:=rfl
def Qho (o:Bool) (z:Nat) (xs:Qa):AV.gpfree (.sl o z xs)=ZV xs:=rfl
def QbP (cs:Qh):AV.strip (.bx cs)= .bx cs:=rfl
def Qk8 (cs:Qh):AV.ok (.bx cs)=false:=rfl
def Qhv (cs:Qh):AV.one (.bx cs)=false:=rfl
def Qhl (cs:Qh):AV.gpfree (.bx cs)=QY cs:=rfl
def QbR (i o:Nat):AV.strip (.gp i o)= .gp i o:=rfl
def Qla (i o:Nat):AV.ok (.gp i o)=true:=rfl
def Qhx (i o:Nat):AV.one (.gp i o)=true:=rfl
def Qhn (i o:Nat):AV.gpfree (.gp i o)=false:=rfl
def QbS (i o z n:Nat):AV.strip (.gs i o z n)= .gs i o z n:=rfl
def Qlb (i o z n:Nat):AV.ok (.gs i o z n)=true:=rfl
def Qhy (i o z n:Nat):AV.one (.gs i o z n)=true:=rfl
def CN (cs:Qh):AV.strip (.rptr cs)= .rptr cs:=rfl
def Qfa (cs:Qh):AV.ok (.rptr cs)=true:=rfl
def QbO (cs:Qh):AV.one (.rptr cs)=true:=rfl
def QbK (cs:Qh):AV.gpfree (.rptr cs)=QY cs:=rfl
def QbQ (f:Nat) (cs:Qh):AV.strip (.fn f cs)= .fn f cs:=rfl
def Qk9 (f:Nat) (cs:Qh):AV.ok (.fn f cs)=true:=rfl
def Qhw (f:Nat) (cs:Qh):AV.one (.fn f cs)=true:=rfl
def Qhm (f:Nat) (cs:Qh):AV.gpfree (.fn f cs)=QY cs:=rfl
def BK (vs:Qh):AV.strip (.tup vs)= .tup vs:=rfl
def Qhu (vs:Qh):AV.ok (.tup vs)=true:=rfl
def Qfg (vs:Qh):AV.one (.tup vs)=false:=rfl
def Qe7 (vs:Qh):AV.gpfree (.tup vs)=QY vs:=rfl
def BG (b:Bool):AV.strip (.err b)= .err b:=rfl
def Qhq (b:Bool):AV.ok (.err b)=true:=rfl
def Qfc (b:Bool):AV.one (.err b)=true:=rfl
def Qe3 (b:Bool):AV.gpfree (.err b)=true:=rfl
def QgU {α:Type} (p:Prop) [Decidable p] (a b c:α): (if p then(if p then a else b)else c)=if p then a else c:=by split <;> simp_all
def QgT {α:Type} (p:Prop) [Decidable p] (a b c:α): (if p then a else(if p then b else c))=if p then a else c:=by split <;> simp_all
attribute [simp] BI Qhs Qfe Qe5 GG QbL BE BD BH Qhr Qfd Qe4 CM Qe9 QbN QbJ CL Qe8 QbM QbI BJ Qht Qff Qe6 BF Qhp Qfb Qe2 QbT Qlc Qhz Qho QbP Qk8 Qhv Qhl QbR Qla Qhx Qhn QbS Qlb Qhy CN Qfa QbO QbK QbQ Qk9 Qhw Qhm BK Qhu Qfg Qe7 BG Qhq Qfc Qe3 QgU QgT
attribute [simp] OI Qot Qqm Qor Qql Qqn Qis Qoq Qp0 QlI Qir QlF Qin QlE Qfp Qfo Qa2 BL QhF Qfn Gp QaL C9 Bn QgI LM H1 H0 LL Qbe Bs Qi Qrz Qry QfZ C8 KO aun XF Wb Ux QY ZV XV Xa cellsOf put Qlx QlH Qip QfN Qiq Qim QkJ O7 QhW Bw Qbi Qfk Qfh QpP QpQ Qlh Qli Qle Qlf Qfm QhD Qfj Qfi QhC QbU Qlg QhE Qfl Qbz
attribute [simp ↓] QoQ
attribute [simp 2000] QlG Qio QrH QrG
def Bt (c:Bool) (x y:Out):XU c false x y=XU c true y x:=by cases c <;> rfl
def Br (c x y:Bool) (s:Qa):XU c true (some (.bool x,s)) (some (.bool y,s))=some (.bool (bif c then x else y),s):=by cases c <;> rfl
def DY (c:Bool) (k:IntKind) (x y:Int) (s:Qa):XU c true (some (.int k x,s)) (some (.int k y,s))=some (.int k (bif c then x else y),s):=by cases c <;> rfl
def Qe {T:VC} {c c':AC} (h:c=c') (ρ:Ql) (bs:Qa) (k:Kn):R T (.loop c) ρ bs k=R T c' ρ bs (QB T (.loop c) k):=by
 subst h;exact Qos c ρ bs k
attribute [simp] toI
def Zb {α:Type} (x:α) (xs:List α): (x:: xs)[0]? =some x:=rfl
attribute [simp] Bt Br DY V7 XR ZR Bool.cond_decide
def Zf {n:Int} (h1: -9223372036854775808<=n) (h2:n < 9223372036854775808):IntKind.i64.wrap n=n:=by
 simp only[IntKind.wrap_i64];omega
def wr1 (n:Nat) (h:n+1 < 9223372036854775808):IntKind.i64.wrap ((n:Int)+1)=(n:Int)+1:=Zf (by omega) (by omega)
def QE {α:Type} {l pre post:List α} {x:α} (h:l=pre ++ x:: post):l.length=pre.length+ (post.length+1):=by rw[h];simp
def QI {α:Type} {l pre post:List α} {x:α} (h:l=pre ++ x:: post): (pre.length:Int) < (l.length:Int):=by have:=QE h;omega
@[simp] def QsX (n:Nat) (vs:Qh):stV (.t n) vs=vs.map AV.strip:=rfl
@[simp] def QsU (z:Nat) (vs:Qh):stV (.c (.sl true z [])) vs=vs.map fun _=> .sl true z []:=rfl
@[simp] def QsT (k:IntKind) (n:Int) (vs:Qh):stV (.c (.int k n)) vs=vs.map AV.strip:=rfl
@[simp] def QsV (s:Qu) (vs:Qh):stV (.c (.str s)) vs=vs.map AV.strip:=rfl
@[simp] def QsA (b:Bool) (vs:Qh):stV (.c (.bool b)) vs=vs.map AV.strip:=rfl
@[simp] def QsR (cs:Qh) (vs:Qh):stV (.c (.agg cs)) vs=vs.map AV.strip:=rfl
@[simp] def QsS (b:Bool) (vs:Qh):stV (.c (.err b)) vs=vs.map AV.strip:=rfl
@[simp] def QsK (i o k:Nat):Pc (.gs i o 0 0) (.sl true k [])= .sl true k []:=rfl
@[simp] def Qso (k:IntKind) (n:Int) (z:AV):Pc (.int k n) z= .int k n:=rfl
@[simp] def Qsp (s:Qu) (z:AV):Pc (.str s) z= .str s:=rfl
@[simp] def QrE (b:Bool) (z:AV):Pc (.bool b) z= .bool b:=rfl
@[simp] def QsL (o:Bool) (k:Nat) (xs:Qa) (z:AV):Pc (.sl o k xs) z= .sl false k xs:=rfl
attribute [simp] Ve
@[simp] def Qrn (i:Nat):AV.strip (.mp i)= .mp i:=rfl
@[simp] def QpO (z:Nat) (xs:Qa) (vs:Qh):AV.strip (.otup z xs vs)= .tup (.sl false z xs:: vs):=rfl
@[simp] def QrF (z:Nat) (xs:Qa) (vs:Qh):AV.ok (.otup z xs vs)=true:=rfl
@[simp] def Qrj (z:Nat) (xs:Qa) (vs:Qh):AV.gpfree (.otup z xs vs)=(ZV xs && QY vs):=rfl
@[simp] def Qro (z:Nat) (cs:Qh):AV.strip (.pv z cs)= .pv z cs:=rfl
@[simp] def QsQ (z:Nat) (cs:Qh):AV.ok (.pv z cs)=false:=rfl
@[simp] def QsP (i:Nat):AV.ok (.mp i)=true:=rfl
@[simp] def Qsz (i:Nat):AV.one (.mp i)=true:=rfl
@[simp] def Qsv (i:Nat):AV.gpfree (.mp i)=false:=rfl
def JV:=@Bool.true_or
@[simp] def OC: ∀bs:Qa,Wk bs bs=true
 | []=>rfl
 | x:: xs=>by simp only[Wk,Xx,OC xs,JV,VZ]
@[simp] def QrM (ys:Qa):Wk [] ys=true:=rfl
@[simp] def Bj (a b c:Qa):Wk (a ++ b) (a ++ c)=Wk b c:=by
 induction a with
 | nil=>rfl
 | cons x xs ih=>simp only[WC,Wk,Xx,ih,JV,VZ]
@[simp] def QrL (a c:Qa):Wk a (a ++ c)=true:=by
 have:=Bj a [] c;simpa using this
@[simp] def QrA (x:Qh) (xs ys:Qa):Wk (x:: xs) (x:: ys)=Wk xs ys:=by simp only[Wk,Xx,JV,VZ]
@[simp] def Dx {cs:Qh} (h:QY cs=true): ∀(bs:Qa) (i:Nat),Wk bs (bs.set i cs)=true
 | [],_=>rfl
 | x:: xs,0=>by simp only[List.set_cons_zero,Wk,h,OC,Bool.or_true,RQ]
 | x:: xs,i+1=>by simp only[List.set_cons_succ,Wk,Xx,Dx h xs i,JV,RQ]
def Hb: ∀{xs ys:Qa},xs.length<=ys.length->(∀(i:Nat) (x y:Qh),xs[i]? =some x->ys[i]? =some y->x=y\/QY y=true)->Wk xs ys=true
 | [],_,_,_=>rfl
 | _:: _,[],h,_=>by simp at h
 | x:: xs,y:: ys,h,hh=>by
  simp only[Wk,Qp,VG];refine⟨?_,Hb (by simpa using h) fun i a b ha hb=>hh (i+1) a b (by simpa using ha) (by simpa using hb)⟩;rcases hh 0 x y rfl rfl with h1 | h1
  ·subst h1;exact .inl (Xx x)
  ·exact .inr h1
@[simp] def QsI {x y:Qh} (h:QY y=true) (xs ys:Qa):Wk (x:: xs) (y:: ys)=Wk xs ys:=by simp only[Wk,h,Bool.or_true,VZ]
@[simp] def QpY:QY []=true:=rfl
@[simp] def DW (x:AV) (xs:Qh):QY (x:: xs)=(x.gpfree && QY xs):=rfl
@[simp] def Bp: ∀n:Nat,QY (List.replicate n .undef)=true
 | 0=>rfl
 | n+1=>by rw[SG,DW,Bp n];rfl
@[simp] def Dy (bs:Qa) (i:Nat):Wk bs (bs.set i [])=true:=Dx rfl bs i
@[simp] def Qrl (t i n:Nat):AV.strip (.gb t i n)= .gb t i n:=rfl
@[simp] def QsN (t i n:Nat):AV.ok (.gb t i n)=true:=rfl
@[simp] def Qsx (t i n:Nat):AV.one (.gb t i n)=true:=rfl
@[simp] def Qst (t i n:Nat):AV.gpfree (.gb t i n)=false:=rfl
@[simp] def Qrm (t i:Nat):AV.strip (.gt t i)= .gt t i:=rfl
@[simp] def QsO (t i:Nat):AV.ok (.gt t i)=true:=rfl
@[simp] def Qsy (t i:Nat):AV.one (.gt t i)=true:=rfl
@[simp] def Qsu (t i:Nat):AV.gpfree (.gt t i)=false:=rfl
@[simp] def Qrk (f:Nat) (cs:Qh):AV.strip (.bf f cs)= .bf f cs:=rfl
@[simp] def QsM (f:Nat) (cs:Qh):AV.ok (.bf f cs)=true:=rfl
@[simp] def Qsw (f:Nat) (cs:Qh):AV.one (.bf f cs)=true:=rfl
@[simp] def Qss (f:Nat) (cs:Qh):AV.gpfree (.bf f cs)=QY cs:=by simp only[AV.gpfree]
def zcc (n:Nat) {fn:Zo} (h:tb n=some (.code fn)) {args:Qh} {bs:Qa} (hl:args.length=fn.nparams):
  call tb n args bs=R tb fn.body (XS args) bs (QN fn bs):=OB h args bs hl
end Go.Am
namespace Go.Am
set_option maxRecDepth 20000
def Ls (a b:Int) (bs:Qa):call tb 32 [.int .i64 a,.int .i64 b] bs=some (.int .i64 (if a < b then -1 else if a > b then 1 else 0),bs):=by
 rw[zcc 32 rfl rfl];simp[f32,f32C]
def S2 (c:UInt8):Bool:=(97<=c.toNat && c.toNat<=122) || (65<=c.toNat && c.toNat<=90) || (48<=c.toNat && c.toNat<=57) || c.toNat == 95 || c.toNat == 35
def JP:=@Bool.eq_iff_iff
def Du (n m:Nat): ((n:Int) == (m:Int))=(n == m):=by rw[JP,Up,Up];omega
def J3 (n:Nat): ((n:Int) == 95)=(n == 95):=Du n 95
def J2 (n:Nat): ((n:Int) == 35)=(n == 35):=Du n 35
def Lr (c:UInt8) (bs:Qa):call tb 9 [.int .u8 c.toNat] bs=some (.bool (S2 c),bs):=by
 rw[zcc 9 rfl rfl];simp (config:={maxSteps:=1000000}) [f9,f9C,S2,J3,J2];have e1: ∀m:Nat,((m:Int)<=(c.toNat:Int))=(m<=c.toNat):=fun m=>by simp
 have e2: ∀m:Nat,((c.toNat:Int)<=(m:Int))=(c.toNat<=m):=fun m=>by simp
 simp only[show(97:Int)=((97:Nat):Int)from rfl,show(122:Int)=((122:Nat):Int)from rfl,show(65:Int)=((65:Nat):Int)from rfl,show(90:Int)=((90:Nat):Int)from rfl,show(48:Int)=((48:Nat):Int)from rfl,show(57:Int)=((57:Nat):Int)from rfl,e1,e2];by_cases h1:97<=c.toNat <;> by_cases h2:c.toNat<=122 <;> by_cases h3:65<=c.toNat <;> by_cases h4:c.toNat<=90 <;> by_cases h5:48<=c.toNat <;> by_cases h6:c.toNat<=57 <;> simp[h1,h2,h3,h4,h5,h6]
def Bv (s:Qu) (bs:Qa) (hs:s.length < 4611686018427387904): ∀(k i:Nat) (ρ:Ql),s.length - i=k->i<=s.length->ρ 0= .str s->ρ 38= .int .i64 s.length->ρ 39= .int .i64 i->
  R tb (.loop f8l0) ρ bs (Qo 0 (QB tb f8r0 (QN f8 bs)))=some (.bool ((s.drop i).all S2),bs):=by
 intro k
 induction k with
 | zero=>
  intro i ρ hk hi h0 h38 h39;have:i=s.length:=by omega
  subst this;rw[Qe f8l0.eq_1];simp[h0,h38,h39,f8r0]
 | succ k ih=>
  intro i ρ hk hi h0 h38 h39;have hlt:i < s.length:=by omega
  have hw:IntKind.i64.wrap ((i:Int)+1)=((i+1:Nat):Int):=Zf (by omega) (by omega);rw[Qe f8l0.eq_1,Jv hlt,SL];cases hb:S2 s[i]
  ·simp[h0,h38,h39,hlt,Lr,hb]
  ·simp[h0,h38,h39,hlt,Lr,hb,hw];rw[ih (i+1)] <;> first | rfl | omega | simp[h0,h38]
def Vd:Qu->Bool
 | []=>false
 | c:: r=>decide (r.length < 24) && S2 c && !(decide (48<=c.toNat) && decide (c.toNat<=57)) && c.toNat != 95 && c.toNat != 35 && r.all S2
def WZ:=@eq_iff_iff
def Bf (s:Qu) (bs:Qa) (hs:s.length < 4611686018427387904):call tb 8 [.str s] bs=some (.bool (Vd s),bs):=by
 rw[zcc 8 rfl rfl];cases s with
 | nil=>simp[f8C,Vd]
 | cons c r=>
  have hl:=Bv (c:: r) bs hs ((c:: r).length - 0) 0;simp (config:={maxSteps:=1000000}) [f8C,Lr,hl,J3,J2];have e1: (24 < (r.length:Int)+1)=(¬r.length < 24):=by rw[WZ];omega
  have e2: ((48:Int)<=(c.toNat:Int))=(48<=c.toNat):=by rw[WZ];omega
  have e3: ((c.toNat:Int)<=57)=(c.toNat<=57):=by rw[WZ];omega
  simp only[Vd,e1,e2,e3,bne];by_cases h1:r.length < 24 <;> by_cases h2:48<=c.toNat <;> by_cases h3:c.toNat<=57 <;> cases S2 c <;> simp[h1,h2,h3]
end Go.Am
namespace Go.Am
set_option maxRecDepth 20000
attribute [simp] Hh Hi
attribute [simp] U6 Ya Rq Zz
attribute [simp] Ur LC Y3 ZI Qk HT Qeb Qec Qed Qee AA AB AD AE Nz Xh
attribute [simp] Int.toNat_natCast
attribute [simp] Hh Hi
def MV (t:Tm) (bs:Qa) (hm:t.mass < big) (ih: ∀x∈t.kids,∀bs,call tb 31 [.agg (Qf x)] bs=some (.int .i64 x.nodes,bs)):
  ∀(post pre:Qc) (ρ:Ql),t.kids=pre ++ post->ρ 7= .sl false 4 (Qb t.kids)->ρ 8= .int .i64 t.kids.length->ρ 9= .int .i64 pre.length->ρ 3= .int .i64 (1+Qx pre:Nat)->
  R tb (.loop f31l0) ρ bs (Qo 0 (QB tb f31r0 (QN f31 bs)))=some (.int .i64 t.nodes,bs):=by
 have hm2:=QK t;have hn:=YJ t.kids;unfold big at hm;intro post
 induction post with
 | nil=>
  intro pre ρ hk h7 h8 h9 h3;rw[Qe f31l0.eq_1];simp at hk;simp[h3,h8,h9,<- hk,f31r0,X5]
 | cons x post IH=>
  intro pre ρ hk h7 h8 h9 h3;have hg:=Qw hk;have hl:=QE hk;have hnn:Qx t.kids=Qx pre+ (x.nodes+Qx post):=by rw[hk,XC];simp[Qx]
  have hw1:=wr1 pre.length (by omega);have hw2:IntKind.i64.wrap (1+ (Qx pre:Int)+ (x.nodes:Int))=1+ (Qx pre:Int)+ (x.nodes:Int):=Zf (by omega) (by omega);have hlt:=QI hk;rw[Qe f31l0.eq_1];simp[h3,h7,h8,h9,hg,hw1,hw2,hlt,ih x (by rw[hk];simp)];rw[IH (pre ++ [x])] <;> simp[h3,h7,h8,h9,hk,XC,Qx];omega
def RW: ∀(t:Tm) (bs:Qa),t.mass < big->call tb 31 [.agg (Qf t)] bs=some (.int .i64 t.nodes,bs):=by
 refine Yq ?_;intro k n s ks ih bs hm;rw[zcc 31 rfl rfl];simp[f31C];refine MV (.mk k n s ks) bs hm (fun x hx bs=>ih x hx bs ?_) ks [] _ ?_ ?_ ?_ ?_ ?_ <;> (try simp[Qx]);have:=Q3 hx;have:=QK (.mk k n s ks);simp at *;omega
end Go.Am
namespace Go.Am
set_option maxRecDepth 20000
def two (bs:Qa) (i j:Nat) (n d:Int):Qa:=(bs.set i [.int .i64 n]).set j [.int .i64 d]
section
variable {bs:List (List AV)} {i j:Nat} {n d m:Int}
def PE: (two bs i j n d).length=bs.length:=by simp[two]
def Qig (hi:i < bs.length) (hij:i≠j): (two bs i j n d)[i]? =some [.int .i64 n]:=by
 rw[two,Wq (Ne.symm hij),Vo hi]
def Qih (hj:j < bs.length): (two bs i j n d)[j]? =some [.int .i64 d]:=by simp[two,hj]
def QhS (hij:i≠j): (two bs i j n d).set i [.int .i64 m]=two bs i j m d:=by
 simp only[two];rw[List.set_comm _ _ (Ne.symm hij),TX]
@[simp] def Dz {n' d':Int}:Wk (two bs i j n d) (two bs i j n' d')=true:=Hb (by simp[PE]) fun k x y hx hy=>by
 unfold two at hx hy;rw[Xq]at hx hy;split at hy
 ·split at hy
  ·injection hy with hy;subst hy;exact .inr rfl
  ·cases hy
 ·rename_i hjk;rw[Qm hjk]at hx;rw[Xq]at hx hy;split at hy
  ·split at hy
   ·injection hy with hy;subst hy;exact .inr rfl
   ·cases hy
  ·rename_i hik;rw[Qm hik,hy]at hx;injection hx with hx
   exact .inl hx.symm
def QhT: (two bs i j n d).set j [.int .i64 m]=two bs i j n m:=by simp[two]
end
def Pj (t:Tm):Int:=
 if t.kind=1\/t.kind=2 then
  if(t.sort < 0\/5 < t.sort)\/0 < t.kids.length then 1 else if Vd t.name=false then 2 else if 8 < t.kids.length then 3 else 0
 else if t.kind=3 then
  if t.sort≠0 then 1 else if Vd t.name=false then 2 else if 8 < t.kids.length then 3 else 0
 else 1
mutual
def Wl:Tm->Int
 | .mk k n s ks=>if Pj (.mk k n s ks)≠0 then Pj (.mk k n s ks)else Ug ks
def Ug:List Tm->Int
 | []=>0
 | t:: ts=>if Wl t≠0 then Wl t else Ug ts
end
mutual
def UK:Tm->Int->Int×Int->Int×Int
 | .mk k n s ks,l,p=>if Pj (.mk k n s ks)≠0 then(p.1+1,if l > p.2 then l else p.2)else TP ks l (p.1+1,if l > p.2 then l else p.2)
def TP:List Tm->Int->Int×Int->Int×Int
 | [],_,p=>p
 | t:: ts,l,p=>if Wl t≠0 then UK t (l+1) p else TP ts l (UK t (l+1) p)
end
mutual
theorem As: ∀(t:Tm) (l:Int) (p:Int×Int),p.1<=(UK t l p).1/\(UK t l p).1<=p.1+t.nodes
 | .mk k n s ks,l,p=>by
  simp only[UK,Tm.nodes];have:=Aq ks l (p.1+1,if l > p.2 then l else p.2);split <;> simp at * <;> omega
theorem Aq: ∀(ts:List Tm) (l:Int) (p:Int×Int),p.1<=(TP ts l p).1/\(TP ts l p).1<=p.1+Qx ts
 | [],l,p=>by simp[TP,Qx]
 | t:: ts,l,p=>by
  simp only[TP,Qx];have:=As t (l+1) p;have:=Aq ts l (UK t (l+1) p);split <;> omega
end
def QaX (t:Tm) (l:Int) (bs:Qa) (i j:Nat) (hi:i < bs.length) (hj:j < bs.length) (hij:i≠j) (hm:t.mass < big) (hl:0<=l/\l+t.depth<=big) (n0 d0:Int)
  (ih: ∀x∈t.kids,∀n d:Int,0<=n->n+x.nodes < 2*big->call tb 7 [.agg (Qf x),.int .i64 (l+1),.gp i 0,.gp j 0] (two bs i j n d)=some (.int .i64 (Wl x),two bs i j (UK x (l+1) (n,d)).1 (UK x (l+1) (n,d)).2)):
  ∀(post pre:Qc) (n d:Int) (ρ:Ql),0<=n->n+Qx post < 2*big->t.kids=pre ++ post->ρ 57= .sl false 4 (Qb t.kids)->ρ 58= .int .i64 t.kids.length->ρ 59= .int .i64 pre.length->
   ρ 1= .int .i64 l->ρ 2= .gp i 0->ρ 3= .gp j 0->
  R tb (.loop f7l0) ρ (two bs i j n d) (Qo 1 (QB tb f7r0 (QN f7 (two bs i j n0 d0))))=
   some (.int .i64 (Ug post),two bs i j (TP post l (n,d)).1 (TP post l (n,d)).2):=by
 have hm2:=QK t;have hdp:=N4 t;unfold big at *;have hji:=Ne.symm hij;intro post
 induction post with
 | nil=>
  intro pre n d ρ hn hnb hk h57 h58 h59 h1 h2 h3;rw[Qe f7l0.eq_1];simp at hk;simp[h1,h2,h3,h57,h58,h59,<- hk,f7r0,Ug,TP,PE];rw[YH (by simp[PE])];exact⟨Dz,rfl⟩
 | cons x post IH=>
  intro pre n d ρ hn hnb hk h57 h58 h59 h1 h2 h3;have hg:=Qw hk;have hlen:t.kids.length=pre.length+ (post.length+1):=by rw[hk];simp
  simp only[Qx]at hnb;have hw1:=wr1 pre.length (by omega);have hw2:IntKind.i64.wrap (l+1)=l+1:=Zf (by omega) (by omega);have hlt: (pre.length:Int) < (t.kids.length:Int):=by omega
  have hx:=ih x (by rw[hk];simp) n d hn (by omega);have hc:=As x (l+1) (n,d);rw[Qe f7l0.eq_1];by_cases he:Wl x=0
  ·simp[h1,h2,h3,h57,h58,h59,hg,hw1,hw2,hlt,hx,he];simp only[Ug,TP,he,ne_eq,not_true,Zi];rw[IH (pre ++ [x])] <;> (first | (simp at hc;omega) | simp[h1,h2,h3,h57,h58,h59,hk])
  ·simp[h1,h2,h3,h57,h58,h59,hg,hw1,hw2,hlt,hx,he,Ug,TP];rw[YH (by simp[PE])];exact⟨Dz,rfl⟩
def QaT: ∀(t:Tm) (l:Int) (bs:Qa) (i j:Nat) (n d:Int),i < bs.length->j < bs.length->i≠j->t.mass < big->0<=l->l+t.depth<=big->0<=n->n+t.nodes < 2*big->
  call tb 7 [.agg (Qf t),.int .i64 l,.gp i 0,.gp j 0] (two bs i j n d)=some (.int .i64 (Wl t),two bs i j (UK t l (n,d)).1 (UK t l (n,d)).2):=by
 refine Yq ?_;intro k nm s ks ih l bs i j n d hi hj hij hm hl hld hn hnb;have hm2:=QK (.mk k nm s ks);have hnn:=X5 (.mk k nm s ks);have hdp:=N4 (.mk k nm s ks);simp only[Zz,Ya]at hm2 hnn hdp;have hdl:=Tc ks;have hnm:=YJ ks;have hloop: ∀ρ:Ql,ρ 57= .sl false 4 (Qb ks)->ρ 58= .int .i64 ks.length->ρ 59= .int .i64 0->
   ρ 1= .int .i64 l->ρ 2= .gp i 0->ρ 3= .gp j 0->
  R tb (.loop f7l0) ρ (two bs i j (n+1) (if l > d then l else d)) (Qo 1 (QB tb f7r0 (QN f7 (two bs i j n d))))=
   some (.int .i64 (Ug ks),two bs i j (TP ks l (n+1,if l > d then l else d)).1 (TP ks l (n+1,if l > d then l else d)).2):=by
  intro ρ h57 h58 h59 h1 h2 h3;refine QaX (.mk k nm s ks) l bs i j hi hj hij hm ⟨hl,hld⟩ n d ?_ ks [] (n+1) (if l > d then l else d) ρ (by omega) (by omega) rfl h57 h58 h59 h1 h2 h3;intro x hx n d hn hnb;have h1:=Q3 hx;have h2:=J5 hx;simp only[Zz]at h1 h2;exact ih x hx (l+1) bs i j n d hi hj hij (by omega) (by omega) (by omega) hn hnb
 unfold big at hm hnb;have hw:IntKind.i64.wrap (n+1)=n+1:=Zf (by omega) (by omega);have hji:=Ne.symm hij;have htk: ∀(a b:Int),List.take bs.length (two bs i j a b)=two bs i j a b:=fun a b=>YH (by simp[PE]);have hnl:nm.length < 4611686018427387904:=by omega
 have hks: ((8:Int) < ks.length)=(8 < ks.length):=by rw[WZ];omega
 rw[zcc 7 rfl rfl];simp (config:={maxSteps:=1000000}) [f7C,hw,Qig hi hij,Qih hj,QhS hij,QhT,PE,Bf,hnl,htk,hks];simp only[gt_iff_lt]at hloop;clear ih hm hl hld hn hnb hm2 hnn hdp hdl hnm hw htk hnl hks hi hj hij hji;generalize hdd: (if d < l then l else d)=d' at *;simp only[WU,Qy,VG]
 repeat' split
 all_goals simp only[Wl,UK,Pj,U6,Rq,Ya,Zz,gt_iff_lt,hdd]
 all_goals first
  | (rw[hloop] <;> simp[*];done)
  | (simp[*];done)
  | skip
def Q4 (t:Tm):Int:=if Wl t≠0 then Wl t else if 400 < t.nodes\/40 < t.depth then 3 else 0
mutual
theorem Au: ∀(t:Tm) (l:Int) (p:Int×Int),Wl t=0->UK t l p=(p.1+t.nodes,max p.2 (l+t.depth - 1))
 | .mk k n s ks,l,p,h=>by
  simp only[Wl]at h;split at h
  ·rename_i hne;exact absurd h hne
  ·rename_i hne;simp only[UK,hne,Zi,Tm.nodes,Tm.depth];rw[Ar ks l _ h];refine Prod.ext ?_ ?_
   ·simp;omega
   ·cases ks with
    | nil=>simp[Y8,Qx];split <;> omega
    | cons t ts=>simp[Y8];split <;> omega
theorem Ar: ∀(ts:List Tm) (l:Int) (p:Int×Int),Ug ts=0->TP ts l p=(p.1+Qx ts,if ts=[]then p.2 else max p.2 (l+Y8 ts))
 | [],l,p,_=>by simp[TP,Qx]
 | t:: ts,l,p,h=>by
  simp only[Ug]at h;split at h
  ·rename_i hne;exact absurd h hne
  ·rename_i hne;have he:Wl t=0:=by simpa using hne
   simp only[TP,hne,Zi,Qx,Y8];rw[Ar ts l _ h,Au t (l+1) p he];refine Prod.ext ?_ ?_
   ·simp;omega
   ·cases ts with
    | nil=>simp[Y8];omega
    | cons u us=>simp[Y8];omega
end
def UJ (t:Tm) (bs:Qa) (hm:t.mass < big):call tb 6 [.agg (Qf t)] bs=some (.int .i64 (Q4 t),bs):=by
 have h2:bs ++ [[AV.int .i64 0],[AV.int .i64 0]]=two (bs ++ [[AV.int .i64 0],[AV.int .i64 0]]) bs.length (bs.length+1) 0 0:=by
  simp[two]
 have hn:=YK t;have hd:=Nx t;have hb:big=1099511627776:=rfl;have hc:=QaT t 1 (bs ++ [[AV.int .i64 0],[AV.int .i64 0]]) bs.length (bs.length+1) 0 0 (by simp) (by simp) (by omega) hm (by omega) (by omega) (by omega) (by omega);rw[<- h2]at hc;have hi:=Qig (bs:=bs ++ [[AV.int .i64 0],[AV.int .i64 0]]) (i:=bs.length) (j:=bs.length+1) (n:=(UK t 1 (0,0)).1) (d:=(UK t 1 (0,0)).2) (by simp) (by omega);have hj:=Qih (bs:=bs ++ [[AV.int .i64 0],[AV.int .i64 0]]) (i:=bs.length) (j:=bs.length+1) (n:=(UK t 1 (0,0)).1) (d:=(UK t 1 (0,0)).2) (by simp);have htk:List.take bs.length (two (bs ++ [[AV.int .i64 0],[AV.int .i64 0]]) bs.length (bs.length+1) (UK t 1 (0,0)).1 (UK t 1 (0,0)).2)=bs:=by
  simp[two]
 have hcnt:=Au t 1 (0,0);rw[zcc 6 rfl rfl];simp[f6C,hc,hi,hj,htk,Q4];by_cases he:Wl t=0
 ·have:=N4 t;have e1: (400 < (t.nodes:Int))=(400 < t.nodes):=by rw[WZ];omega
  have e2: (40 < (max 0 (1+ (t.depth:Int) - 1)))=(40 < t.depth):=by rw[WZ];omega
  simp[he,hcnt he,e1,e2,WU]
 ·simp[he]
end Go.Am
namespace Go.Am
set_option maxRecDepth 20000
def NV (a b:Int) (bs:Qa):call tb 32 [.int .i64 a,.int .i64 b] bs=some (.int .i64 (sgn a b),bs):=Ls a b bs
def KX (a b:Qu) (bs:Qa):call tb 33 [.str a,.str b] bs=some (.int .i64 (WI a b),bs):=by
 rw[Ws tb_33];rfl
def PF (t u:Tm) (bs:Qa) (hm:t.mass < big) (hu:u.mass < big)
  (ih: ∀x∈t.kids,∀y bs,y.mass < big->call tb 30 [.agg (Qf x),.agg (Qf y)] bs=some (.int .i64 (Qq x y),bs)):
  ∀(xs ys pre pre':Qc) (c:Int) (ρ:Ql),t.kids=pre ++ xs->u.kids=pre' ++ ys->pre.length=pre'.length->(c=0->xs.length=ys.length)->
   ρ 2= .bx (Qf t)->ρ 3= .bx (Qf u)->ρ 5= .int .i64 c->ρ 6= .int .i64 pre.length->
  R tb (.loop f30l0) ρ bs (Qo 0 (QB tb f30r0 (QN f30 bs)))=some (.int .i64 (or0 c (XH xs ys)),bs):=by
 have hm2:=QK t;have hu2:=QK u;intro xs
 induction xs with
 | nil=>
  intro ys pre pre' c ρ hk hk' hp hc h2 h3 h5 h6;rw[Qe f30l0.eq_1];simp at hk;by_cases h0:c=0
  ·simp[h2,h3,h5,h6,h0,f30r0,hk,XH,GQ]
  ·simp[h2,h3,h5,h6,h0,f30r0,XH,GQ]
 | cons x xs IH=>
  intro ys pre pre' c ρ hk hk' hp hc h2 h3 h5 h6;rw[Qe f30l0.eq_1];by_cases h0:c=0
  ·obtain⟨y,ys',rfl⟩: ∃y ys',ys=y:: ys':=by
    have:=hc h0;cases ys with
    | nil=>simp at this
    | cons y ys'=>exact⟨y,ys',rfl⟩
   have hg:=Qw hk;have hg':=Qw hk';rw[<- hp]at hg';have hl:t.kids.length=pre.length+ (xs.length+1):=by rw[hk];simp
   have hlt: (pre.length:Int) < (t.kids.length:Int):=by omega
   have hym:y.mass < big:=by have:=Q3 (x:=y) (ks:=u.kids) (by rw[hk'];simp);omega
   unfold big at hm hu;have hw1:=wr1 pre.length (by omega);simp[h2,h3,h5,h6,h0,hlt,hg,hg',hw1,ih x (by rw[hk];simp) y bs hym];rw[IH ys' (pre ++ [x]) (pre' ++ [y]) (Qq x y)] <;> first | omega | (simp[hk,hk',hp,h2,h3,XH,TK];done) | (intro _;have:=hc h0;simp at this;omega)
  ·simp[h2,h3,h5,h6,h0,f30r0,XH,S1]
def call_Compare: ∀(t u:Tm) (bs:Qa),t.mass < big->u.mass < big->call tb 30 [.agg (Qf t),.agg (Qf u)] bs=some (.int .i64 (Qq t u),bs):=by
 refine Yq ?_;intro k n s ks ih u bs hm hu;have hloop:=PF (.mk k n s ks) u bs hm hu (fun x hx y bs hy=>ih x hx y bs (by have:=Q3 hx;have:=QK (.mk k n s ks);simp at *;omega) hy) ks u.kids [] [] (hdT (.mk k n s ks) u);rw[zcc 30 rfl rfl,Ri];have hsz:=RW (.mk k n s ks) bs hm;have hsz':=RW u bs hu;simp[f30C,hsz,hsz',NV,KX];by_cases c1:sgn (Tm.mk k n s ks).nodes u.nodes=0 <;> by_cases c2:sgn k u.kind=0 <;> by_cases c3:WI n u.name=0 <;> by_cases c4:sgn s u.sort=0 <;>
  simp[c1,c2,c3,c4,WU] <;> rw[hloop] <;> first | (simp[hdT,c1,c2,c3,c4,TK,S1];done) | (simp[hdT,c1,c2,c3,c4,Oq,TK,S1];omega) | skip
def QaD (t:Tm) (bs:Qa) (hm:t.mass < big) (ih: ∀x∈t.kids,∀bs,call tb 60 [.agg (Qf x)] bs=some (.int .i64 x.nodes,bs)):
  ∀(post pre:Qc) (ρ:Ql),t.kids=pre ++ post->ρ 1= .bx (Qf t)->ρ 4= .int .i64 pre.length->ρ 3= .int .i64 (1+Qx pre:Nat)->
  R tb (.loop f60l0) ρ bs (Qo 0 (QB tb f60r0 (QN f60 bs)))=some (.int .i64 t.nodes,bs):=by
 have hm2:=QK t;have hn:=YJ t.kids;unfold big at hm;intro post
 induction post with
 | nil=>
  intro pre ρ hk h1 h4 h3;rw[Qe f60l0.eq_1];simp at hk;simp[h1,h3,h4,<- hk,f60r0,X5]
 | cons x post IH=>
  intro pre ρ hk h1 h4 h3;have hg:=Qw hk;have hl:=QE hk;have hnn:Qx t.kids=Qx pre+ (x.nodes+Qx post):=by rw[hk,XC];simp[Qx]
  have hw1:=wr1 pre.length (by omega);have hw2:IntKind.i64.wrap (1+ (Qx pre:Int)+ (x.nodes:Int))=1+ (Qx pre:Int)+ (x.nodes:Int):=Zf (by omega) (by omega);have hlt:=QI hk;rw[Qe f60l0.eq_1];simp[h3,h1,h4,hg,hw1,hw2,hlt,ih x (by rw[hk];simp)];rw[IH (pre ++ [x])] <;> simp[h3,h1,h4,hk,XC,Qx];omega
def NT: ∀(t:Tm) (bs:Qa),t.mass < big->call tb 60 [.agg (Qf t)] bs=some (.int .i64 t.nodes,bs):=by
 refine Yq ?_;intro k n s ks ih bs hm;rw[zcc 60 rfl rfl];simp[f60C];refine QaD (.mk k n s ks) bs hm (fun x hx bs=>ih x hx bs ?_) ks [] _ ?_ ?_ ?_ ?_ <;> (try simp[Qx]);have:=Q3 hx;have:=QK (.mk k n s ks);simp at *;omega
def Gv (a b:Qc):Y8 (a ++ b)=max (Y8 a) (Y8 b):=by
 induction a with
 | nil=>simp[Y8]
 | cons t ts ih=>simp[Y8,ih]
def C2 (t:Tm) (bs:Qa) (hm:t.mass < big) (ih: ∀x∈t.kids,∀bs,call tb 61 [.agg (Qf x)] bs=some (.int .i64 x.depth,bs)):
  ∀(post pre:Qc) (ρ:Ql),t.kids=pre ++ post->ρ 1= .bx (Qf t)->ρ 4= .int .i64 pre.length->ρ 3= .int .i64 (Y8 pre:Nat)->
  R tb (.loop f61l0) ρ bs (Qo 0 (QB tb f61r0 (QN f61 bs)))=some (.int .i64 t.depth,bs):=by
 have hm2:=QK t;have hn:=Tc t.kids;have hn2:=YJ t.kids;unfold big at hm;intro post
 induction post with
 | nil=>
  intro pre ρ hk h1 h4 h3;rw[Qe f61l0.eq_1];simp at hk;have hw2:IntKind.i64.wrap ((Y8 pre:Int)+1)=(Y8 pre:Int)+1:=Zf (by omega) (by rw[<- hk];omega);simp[h1,h3,h4,hk,hw2,f61r0,N4]
 | cons x post IH=>
  intro pre ρ hk h1 h4 h3;have hg:=Qw hk;have hl:=QE hk;have hw1:=wr1 pre.length (by omega);have hlt:=QI hk;rw[Qe f61l0.eq_1];simp[h3,h1,h4,hg,hw1,hlt,ih x (by rw[hk];simp)];rw[IH (pre ++ [x])] <;> simp[h3,h1,h4,hk,Gv,Y8];split <;> omega
def Bb: ∀(t:Tm) (bs:Qa),t.mass < big->call tb 61 [.agg (Qf t)] bs=some (.int .i64 t.depth,bs):=by
 refine Yq ?_;intro k n s ks ih bs hm;rw[zcc 61 rfl rfl];simp[f61C];refine C2 (.mk k n s ks) bs hm (fun x hx bs=>ih x hx bs ?_) ks [] _ ?_ ?_ ?_ ?_ <;> (try simp[Y8]);have:=Q3 hx;have:=QK (.mk k n s ks);simp at *;omega
def Dk (a b:Int) (bs:Qa):call tb 91 [.int .i64 a,.int .i64 b] bs=some (.int .i64 (sgn a b),bs):=by
 rw[zcc 91 rfl rfl];simp[f91,f91C,sgn]
def Gm (t u:Tm) (bs:Qa) (hm:t.mass < big) (hu:u.mass < big)
  (ih: ∀x∈t.kids,∀y bs,y.mass < big->call tb 90 [.agg (Qf x),.agg (Qf y)] bs=some (.int .i64 (Qq x y),bs)):
  ∀(xs ys pre pre':Qc) (ρ:Ql),t.kids=pre ++ xs->u.kids=pre' ++ ys->pre.length=pre'.length->xs.length=ys.length->
   ρ 2= .bx (Qf t)->ρ 3= .bx (Qf u)->ρ 9= .int .i64 pre.length->
  R tb (.loop f90l0) ρ bs (Qo 0 (QB tb f90r0 (QN f90 bs)))=some (.int .i64 (XH xs ys),bs):=by
 have hm2:=QK t;have hu2:=QK u;intro xs
 induction xs with
 | nil=>
  intro ys pre pre' ρ hk hk' hp hc h2 h3 h9;rw[Qe f90l0.eq_1];simp at hk;simp[h2,h3,h9,f90r0,hk,XH]
 | cons x xs IH=>
  intro ys pre pre' ρ hk hk' hp hc h2 h3 h9;rw[Qe f90l0.eq_1];obtain⟨y,ys',rfl⟩: ∃y ys',ys=y:: ys':=by
   cases ys with
   | nil=>simp at hc
   | cons y ys'=>exact⟨y,ys',rfl⟩
  have hg:=Qw hk;have hg':=Qw hk';rw[<- hp]at hg';have hl:t.kids.length=pre.length+ (xs.length+1):=by rw[hk];simp
  have hlt: (pre.length:Int) < (t.kids.length:Int):=by omega
  have hym:y.mass < big:=by have:=Q3 (x:=y) (ks:=u.kids) (by rw[hk'];simp);omega
  unfold big at hm hu;have hw1:=wr1 pre.length (by omega);by_cases h0:Qq x y=0
  ·simp[h2,h3,h9,h0,hlt,hg,hg',hw1,ih x (by rw[hk];simp) y bs hym];rw[IH ys' (pre ++ [x]) (pre' ++ [y])] <;> first | omega | (simp[hk,hk',hp,h0,h2,h3,XH,TK];done) | (simp at hc;omega)
  ·simp[h2,h3,h9,h0,hlt,hg,hg',hw1,ih x (by rw[hk];simp) y bs hym,XH,S1]
def UY: ∀(t u:Tm) (bs:Qa),t.mass < big->u.mass < big->call tb 90 [.agg (Qf t),.agg (Qf u)] bs=some (.int .i64 (Qq t u),bs):=by
 refine Yq ?_;intro k n s ks ih u bs hm hu;have hloop:=Gm (.mk k n s ks) u bs hm hu (fun x hx y bs hy=>ih x hx y bs (by have:=Q3 hx;have:=QK (.mk k n s ks);simp at *;omega) hy) ks u.kids [] [];rw[zcc 90 rfl rfl,Ri];have hsz:=NT (.mk k n s ks) bs hm;have hsz':=NT u bs hu;simp[f90C,hsz,hsz',Dk];have b0:WI n u.name=if Op.bytesLess n u.name then -1 else if(Op.bytesLess n u.name || n == u.name)=false then 1 else 0:=by
  unfold WI;cases Op.bytesLess n u.name <;> cases hh: (n == u.name) <;> simp
 generalize (n == u.name)=q at *;generalize Op.bytesLess n u.name=p at *;by_cases c1:sgn (Tm.mk k n s ks).nodes u.nodes=0 <;> by_cases c2:sgn k u.kind=0 <;> cases p <;> cases q <;> by_cases c4:sgn s u.sort=0 <;>
  by_cases c6:sgn ks.length u.kids.length=0 <;> simp[c1,c2,c4,c6,WU,hdT,TK,S1,b0]
 all_goals (rw[hloop] <;> (try simp) <;> (try (have:=Oq.1 c6;omega)))
def Xs (t u:Tm) (bs:Qa) (hm:t.mass < big) (hu:u.mass < big):call tb 89 [.agg (Qf t),.agg (Qf u)] bs=some (.bool (decide (Qq t u=0)),bs):=by
 rw[zcc 89 rfl rfl];simp[f89,f89C,UY t u bs hm hu]
end Go.Am
namespace Go.Am
set_option maxRecDepth 20000
mutual
def SN:Tm->Int->Int
 | .mk _ n _ ks,m=>if m<=0\/40 < n.length then -1 else TO ks (m - 1)
def TO:List Tm->Int->Int
 | [],m=>m
 | t:: ts,m=>if SN t m < 0 then -1 else TO ts (SN t m)
end
mutual
theorem I4: ∀(t:Tm) (m:Int),SN t m= -1\/0<=SN t m/\SN t m+t.nodes<=m/\t.mass+1<=42*t.nodes
 | .mk k n s ks,m=>by
  simp only[SN,Tm.nodes,Tm.mass];split
  ·exact .inl rfl
  ·rename_i h;rcases I3 ks (m - 1) (by omega)with h1 | h1
   ·exact .inl h1
   ·right;omega
theorem I3: ∀(ts:List Tm) (m:Int),0<=m->TO ts m= -1\/0<=TO ts m/\TO ts m+Qx ts<=m/\Qv ts+ts.length<=42*Qx ts
 | [],m,h=>by simp[TO,Qx,Qv];omega
 | t:: ts,m,h=>by
  simp only[TO,Qx,Qv,ZQ];split
  ·exact .inl rfl
  ·rename_i h0;rcases I4 t m with h1 | h1
   ·omega
   ·rcases I3 ts (SN t m) (by omega)with h2 | h2
    ·exact .inl h2
    ·right;omega
end
def Qf4 (t:Tm) (bs:Qa) (m0:Int) (hm:m0 < 1000000) (ih: ∀x∈t.kids,∀(m:Int) bs,m < 1000000->call tb 102 [.agg (Qf x),.int .i64 m] bs=some (.int .i64 (SN x m),bs)):
  ∀(post pre:Qc) (m:Int) (ρ:Ql),t.kids=pre ++ post->0<=m->m+pre.length<=m0->ρ 2= .bx (Qf t)->ρ 5= .int .i64 pre.length->ρ 1= .int .i64 m->
  R tb (.loop f102l0) ρ bs (Qo 0 (QB tb f102r0 (QN f102 bs)))=some (.int .i64 (TO post m),bs):=by
 intro post
 induction post with
 | nil=>
  intro pre m ρ hk h0 hp h2 h5 h1;rw[Qe f102l0.eq_1];simp at hk;simp[h1,h2,h5,hk,f102r0,TO]
 | cons x post IH=>
  intro pre m ρ hk h0 hp h2 h5 h1;have hg:=Qw hk;have hl:=QE hk;have hw1:=wr1 pre.length (by omega);have hlt:=QI hk;have hn:=X5 x;rw[Qe f102l0.eq_1];rcases I4 x m with hb | hb
  ·simp[h1,h2,h5,hg,hw1,hlt,ih x (by rw[hk];simp) m bs (by omega),hb,TO]
  ·have hb0: ¬SN x m < 0:=by omega
   simp[h1,h2,h5,hg,hw1,hlt,ih x (by rw[hk];simp) m bs (by omega),hb0,TO];rw[IH (pre ++ [x]) (SN x m)] <;> first | omega | (simp[h1,h2,h5,hk];done) | (simp;omega)
def Dq: ∀(t:Tm) (m:Int) (bs:Qa),m < 1000000->call tb 102 [.agg (Qf t),.int .i64 m] bs=some (.int .i64 (SN t m),bs):=by
 refine Yq ?_;intro k n s ks ih m bs hm;rw[zcc 102 rfl rfl];have hn: (40 < (n.length:Int))=(40 < n.length):=by rw[WZ];omega
 simp[f102C,WU,hn,SN];split
 ·rfl
 ·rename_i hc;have hw:IntKind.i64.wrap (m - 1)=m - 1:=Zf (by omega) (by omega);refine Qf4 (.mk k n s ks) bs m hm (fun x hx=>ih x hx) ks [] (m - 1) _ ?_ ?_ ?_ ?_ ?_ ?_ <;> first | (simp[hw];done) | (simp;omega)
def few (l:Qc) (n:Nat) (m:Int):Bool:=decide (l.length<=n) && decide (0<=TO l m)
def QgG (l:Qc) (o:Bool) (bs:Qa) (hl:l.length < 1000000):
  ∀(post pre:Qc) (m:Int) (ρ:Ql),l=pre ++ post->0<=m->m < 1000000->ρ 0= .sl o 4 (Qb l)->ρ 7= .int .i64 pre.length->ρ 2= .int .i64 m->
  R tb (.loop f101l0) ρ bs (Qo 0 (QB tb f101r0 (QN f101 bs)))=some (.bool (decide (0<=TO post m)),bs):=by
 intro post
 induction post with
 | nil=>
  intro pre m ρ hk h0 hm hr0 h7 h2;rw[Qe f101l0.eq_1];simp at hk;simp[hr0,h7,h2,hk,f101r0,TO,h0]
 | cons x post IH=>
  intro pre m ρ hk h0 hm hr0 h7 h2;have hg:=Qw hk;have hl:=QE hk;have hw1:=wr1 pre.length (by omega);have hlt:=QI hk;rw[Qe f101l0.eq_1];rcases I4 x m with hb | hb
  ·simp[hr0,h7,h2,hg,hw1,hlt,Dq x m bs (by omega),hb,TO]
  ·have hb0: ¬SN x m < 0:=by omega
   simp[hr0,h7,h2,hg,hw1,hlt,Dq x m bs (by omega),hb0,TO];rw[IH (pre ++ [x]) (SN x m)] <;> first | omega | (simp[hr0,h7,h2,hk];done)
def Ds (l:Qc) (o:Bool) (n:Nat) (m:Int) (bs:Qa) (hn:n < 1000000) (h0:0<=m) (hm:m < 1000000):
  call tb 101 [.sl o 4 (Qb l),.int .i64 n,.int .i64 m] bs=some (.bool (few l n m),bs):=by
 rw[zcc 101 rfl rfl];have e1: ((n:Int) < (l.length:Int))=(n < l.length):=by rw[WZ];omega
 simp[f101C,WU,few];split
 ·have: ¬l.length<=n:=by omega
  simp[this]
 ·have:l.length<=n:=by omega
  rw[QgG l false bs (by omega) l [] m] <;> simp[this,h0,hm]
end Go.Am
namespace Go.Am
set_option maxRecDepth 20000
def So (c:UInt8):Bool:=(97<=c.toNat && c.toNat<=122) || (65<=c.toNat && c.toNat<=90)
def Oa (c:UInt8):Bool:=48<=c.toNat && c.toNat<=57
def Sc (c:UInt8):S2 c=(So c || Oa c || c.toNat == 95 || c.toNat == 35):=rfl
def TG (m n:Nat): ((m:Int)<=(n:Int))=(m<=n):=by rw[WZ];omega
def OY (c:UInt8) (bs:Qa):call tb 58 [.int .u8 c.toNat] bs=some (.bool (So c),bs):=by
 rw[zcc 58 rfl rfl];have e1: ((97:Int)<=(c.toNat:Int))=(97<=c.toNat):=TG 97 _;have e2: ((c.toNat:Int)<=122)=(c.toNat<=122):=TG _ 122;have e3: ((65:Int)<=(c.toNat:Int))=(65<=c.toNat):=TG 65 _;have e4: ((c.toNat:Int)<=90)=(c.toNat<=90):=TG _ 90;simp[f58,f58C,So,e1,e2,e3,e4]
def J0 (c:UInt8) (bs:Qa):call tb 59 [.int .u8 c.toNat] bs=some (.bool (Oa c),bs):=by
 rw[zcc 59 rfl rfl];have e1: ((48:Int)<=(c.toNat:Int))=(48<=c.toNat):=TG 48 _;have e2: ((c.toNat:Int)<=57)=(c.toNat<=57):=TG _ 57;simp[f59,f59C,Oa,e1,e2]
def HH (n:Nat): ((n:Int)=95)=(n=95):=by rw[WZ];omega
def HG (n:Nat): ((n:Int)=35)=(n=35):=by rw[WZ];omega
def Nl:=@Bool.or_eq_false_iff
def EG (s:Qu) (bs:Qa) (hs:s.length < 4611686018427387904): ∀(post pre:Qu) (ρ:Ql),s=pre ++ post->ρ 0= .str s->ρ 3= .int .i64 pre.length->
  R tb (.loop f57l0) ρ bs (Qo 0 (QB tb f57r0 (QN f57 bs)))=some (.bool (post.all S2),bs):=by
 intro post
 induction post with
 | nil=>
  intro pre ρ hk h0 h3;rw[Qe f57l0.eq_1];simp at hk;simp[h0,h3,hk,f57r0]
 | cons x post IH=>
  intro pre ρ hk h0 h3;have hg:=Qw hk;have hl:=QE hk;have hw1:=wr1 pre.length (by omega);have hlt:=QI hk;rw[Qe f57l0.eq_1];cases hp:S2 x
  ·rw[Sc]at hp;simp only[Nl]at hp;obtain⟨⟨⟨p1,p2⟩,p3⟩,p4⟩:=hp;have p3': ¬x.toNat=95:=by simpa using p3
   have p4': ¬x.toNat=35:=by simpa using p4
   simp[h0,h3,hg,hw1,hlt,OY,J0,p1,p2,p3',p4',HH,HG,Sc]
  ·simp[h0,h3,hg,hw1,hlt,OY,J0,HH,HG,Sc,WU];split
   ·rename_i hc;simp[Sc,hc]at hp
   ·rw[IH (pre ++ [x])]
    ·simp[Sc]at hp;simp[hp]
    ·simp[hk]
    ·simp[h0]
    ·simp
def EN:=@Bool.and_eq_false_iff
def Qbn {c:UInt8} (h:So c=true):Oa c=false/\(c.toNat == 95)=false/\(c.toNat == 35)=false:=by
 simp only[So,VG,Qp,Qy]at h;refine⟨?_,?_,?_⟩
 ·simp only[Oa,EN,TC];omega
 ·simp;omega
 ·simp;omega
def Bu (c:UInt8) (r:Qu):Vd (c:: r)=(decide (r.length < 24) && So c && (c:: r).all S2):=by
 have hd: (decide (48<=c.toNat) && decide (c.toNat<=57))=Oa c:=rfl;simp only[Vd,SL,hd,bne];cases hl:So c
 ·rw[Sc,hl];cases Oa c <;> cases (c.toNat == 95) <;> cases (c.toNat == 35) <;> simp
 ·obtain⟨h1,h2,h3⟩:=Qbn hl;rw[Sc,hl,h1,h2,h3];simp
def Dj (s:Qu) (bs:Qa) (hs:s.length < 4611686018427387904):call tb 57 [.str s] bs=some (.bool (Vd s),bs):=by
 rw[zcc 57 rfl rfl];cases s with
 | nil=>simp[f57C,Vd]
 | cons c r=>
  have e1: (24 < (r.length:Int)+1)=¬(r.length < 24):=by rw[WZ];omega
  have e2: ((r.length:Int)+1=0)=False:=eq_false (by omega);rw[Bu];by_cases h1:r.length < 24 <;> cases h2:So c <;>
  simp[f57C,OY,e1,e2,h1,h2,-List.all_cons];rw[EG (c:: r) bs hs (c:: r) []] <;> (try simp)
end Go.Am
namespace Go.Am
set_option maxRecDepth 20000
def WH: ∀a:Qu,Op.bytesLess a a=false
 | []=>rfl
 | c:: r=>by simp[Op.bytesLess,WH r]
def HK (a:Qu):WI a a=0:=by simp[WI,WH]
def QhG (a:Int):sgn a a=0:=Oq.2 rfl
def QgL (t:Tm):hdT t t=0:=by simp[hdT,QhG,HK,or0]
mutual
theorem V2: ∀t:Tm,Qq t t=0
 | .mk k n s ks=>by rw[Qq,QgL,TK];exact HJ ks
theorem HJ: ∀ts:List Tm,XH ts ts=0
 | []=>by simp[XH]
 | t:: ts=>by rw[XH,V2 t,TK];exact HJ ts
end
def K3 {l:Qc} {n:Nat} {m:Int} (h0:0<=m) (h:few l n m=true):l.length<=n/\Qv l+l.length<=42*m.toNat/\Qx l<=m.toNat:=by
 simp only[few,Qp,Qy]at h;rcases I3 l m h0 with h1 | h1
 ·omega
 ·omega
end Go.Am
namespace Go.Am
set_option maxRecDepth 20000
def QaY (t:Tm) (bs:Qa) (hm:t.mass < big) (ih: ∀x∈t.kids,∀bs,call tb 48 [.agg (Qf x)] bs=some (.agg (Qf x),bs)):
  ∀(post pre:Qc) (ρ:Ql),t.kids=pre ++ post->ρ 1= .bx [.int .i64 t.kind,.str t.name,.int .i64 t.sort,.sl true 4 (Qb pre)]->ρ 2= .bx [.int .i64 0,.str [],.int .i64 0,.sl true 4 []]->
   ρ 9= .sl false 4 (Qb t.kids)->ρ 10= .int .i64 t.kids.length->ρ 11= .int .i64 pre.length->
  R tb (.loop f48l0) ρ bs (Qo 0 (QB tb f48r0 (QN f48 bs)))=some (.agg (Qf t),bs):=by
 have hm2:=QK t;unfold big at hm;intro post
 induction post with
 | nil=>
  intro pre ρ hk h1 h2 h9 h10 h11;rw[Qe f48l0.eq_1];simp at hk;rw[<- hk]at h1 h11;simp[h1,h2,h9,h10,h11,f48r0,Tq,Tm.eta]
 | cons x post IH=>
  intro pre ρ hk h1 h2 h9 h10 h11;have hg:=Qw hk;have hl:=QE hk;have hw1:=wr1 pre.length (by omega);have hlt:=QI hk;have ha: (pre.length+1)*56<=140737488355328:=by omega
  rw[Qe f48l0.eq_1];simp[h1,h2,h9,h10,h11,hg,hw1,hlt,ha,ih x (by rw[hk];simp),Z4,ZL];rw[IH (pre ++ [x])] <;> simp[h2,h9,h10,hk]
def NU: ∀(t:Tm) (bs:Qa),t.mass < big->call tb 48 [.agg (Qf t)] bs=some (.agg (Qf t),bs):=by
 refine Yq ?_;intro k n s ks ih bs hm;rw[zcc 48 rfl rfl];simp[f48C,Qf];refine QaY (.mk k n s ks) bs hm (fun x hx bs=>ih x hx bs ?_) ks [] _ ?_ ?_ ?_ ?_ ?_ ?_ <;> (try simp[Qb]);have:=Q3 hx;have:=QK (.mk k n s ks);simp at *;omega
def Dp (n:Qu) (ks:Qc) (o:Bool) (bs:Qa):call tb 49 [.str n,.sl o 4 (Qb ks)] bs=some (.agg (Qf (.mk 3 n 0 ks)),bs):=by
 rw[zcc 49 rfl rfl];simp[f49,f49C,Tq]
structure Sy where
 n:List UInt8
 l:Int
 m:Int
 k:Int
def VP (s:Sy):Qh:=[.str s.n,.int .i64 s.l,.int .i64 s.m,.int .i64 s.k]
def Wn:List Sy:=[⟨[112,97,105,114],2,2,1⟩,⟨[101,110,99],2,2,1⟩,⟨[97,101,110,99],2,2,1⟩,⟨[112,107],1,1,1⟩,⟨[115,105,103,110],2,2,1⟩,⟨[104,97,115,104],1,1,1⟩,
 ⟨[120,111,114],2,8,1⟩,⟨[122,101,114,111],0,0,1⟩,⟨[101,120,112],2,2,1⟩,⟨[109,117,108],2,8,1⟩,⟨[105,110,118],1,1,1⟩,⟨[111,110,101],0,0,1⟩,
 ⟨[115,107],1,1,2⟩,⟨[115,104,107],2,2,2⟩,⟨[110,101,119],1,8,2⟩,⟨[102,115,116],1,1,3⟩,⟨[115,110,100],1,1,3⟩,⟨[100,101,99],2,2,3⟩,⟨[97,100,101,99],2,2,3⟩,⟨[111,112,101,110],2,2,3⟩,⟨[114,101,97,100],1,1,3⟩]
def Vr (ys:List Sy):Qa:=ys.map VP
@[simp] def Gx (ys:List Sy):ZV (Vr ys)=true:=by
 induction ys with
 | nil=>rfl
 | cons y ys ih=>simpa[Vr,VP,ZV,QY,AV.gpfree]using ih
@[simp] def QrD (ys:List Sy): (Vr ys).length=ys.length:=by simp[Vr]
def Do (k l m:Int) (n:Qu) (ys:List Sy) (bs:Qa) (hx:ys.length < 1000):
  call tb 45 [.int .i64 k,.str n,.int .i64 l,.int .i64 m,.gp bs.length 0] (bs ++ [[.sl true 4 (Vr ys)]])=some (.tup [],bs ++ [[.sl true 4 (Vr (ys ++ [⟨n,l,m,k⟩]))]]):=by
 rw[zcc 45 rfl rfl];have ha: (ys.length+1)*40<=140737488355328:=by omega
 have h1:Vr (ys ++ [⟨n,l,m,k⟩])=Vr ys ++ [[.str n,.int .i64 l,.int .i64 m,.int .i64 k]]:=by simp[Vr,VP]
 have h2:ZV (Vr ys ++ [[.str n,.int .i64 l,.int .i64 m,.int .i64 k]])=true:=by rw[<- h1];exact Gx _
 simp[f45,f45C,ha,h1,h2,YH,QY]
def Qd1 (k l m:Int) (n:Qu) (bs:Qa):
  call tb 45 [.int .i64 k,.str n,.int .i64 l,.int .i64 m,.gp bs.length 0] (bs ++ [[.sl true 4 []]])=some (.tup [],bs ++ [[.sl true 4 (Vr [⟨n,l,m,k⟩])]]):=Do k l m n [] bs (by simp)
def Dn (bs:Qa):call tb 44 [] bs=some (.sl false 4 (Vr Wn),bs):=by
 rw[zcc 44 rfl rfl];simp only[f44,f44C];simp[Qd1,Do,Wn]
def Yp (n:Qu):List Sy->Option Sy
 | []=>none
 | s:: ss=>if s.n=n then some s else Yp n ss
def LD {l:List Sy} {pre post:List Sy} {s:Sy} (h:l=pre ++ s:: post): (Vr l)[pre.length]? =some (VP s):=by
 subst h;simp[Vr]
def BO (n:Qu) (l:List Sy) (bs:Qa) (hn:l.length < 1000):
  ∀(post pre:List Sy) (ρ:Ql),l=pre ++ post->ρ 0= .str n->ρ 2= .bx [.str [],.int .i64 0,.int .i64 0,.int .i64 0]->
   ρ 5= .sl false 4 (Vr l)->ρ 6= .int .i64 l.length->ρ 7= .int .i64 pre.length->
  R tb (.loop f43l0) ρ bs (Qo 0 (QB tb f43r0 (QN f43 bs)))=
   some (.agg (match Yp n post with | some s=>VP s | none=>[.str [],.int .i64 0,.int .i64 0,.int .i64 0]),bs):=by
 intro post
 induction post with
 | nil=>
  intro pre ρ hk h0 h2 h5 h6 h7;rw[Qe f43l0.eq_1];simp at hk;rw[<- hk]at h7;simp[h0,h2,h5,h6,h7,f43r0,Yp]
 | cons x post IH=>
  intro pre ρ hk h0 h2 h5 h6 h7;have hg:=LD hk;have hl:=QE hk;have hw1:=wr1 pre.length (by omega);have hlt:=QI hk;rw[Qe f43l0.eq_1];by_cases hx:x.n=n
  ·simp[h0,h2,h5,h6,h7,hg,hw1,hlt,VP,hx,Yp]
  ·have hxb: (x.n == n)=false:=by simp[hx]
   simp[h0,h2,h5,h6,h7,hg,hw1,hlt,VP,hx,hxb,Yp];rw[IH (pre ++ [x])] <;> simp[h0,h2,h5,h6,hk,VP]
def WR (n:Qu) (bs:Qa):call tb 43 [.str n] bs=some (.agg (match Yp n Wn with | some s=>VP s | none=>[.str [],.int .i64 0,.int .i64 0,.int .i64 0]),bs):=by
 rw[zcc 43 rfl rfl];simp[f43C,Dn];refine BO n Wn bs (by simp[Wn]) Wn [] _ rfl ?_ ?_ ?_ ?_ ?_ <;> simp
end Go.Am
namespace Go.Am
set_option maxRecDepth 20000
def TH (k:Tm):Bool:=k.kind == 3 || k.sort != 1
mutual
def X2:Tm->Int
 | .mk k n _ ks=>if k≠3 then 0 else match Yp n Wn with
  | none=>10
  | some y=>if(ks.length:Int) < y.l\/y.m < ks.length then 6 else if(n=[115,107]\/n=[115,104,107])/\ks.any TH then 10
   else if n=[110,101,119]/\ks.head?.map Tm.kind≠some 2 then 10 else SO ks
def SO:List Tm->Int
 | []=>0
 | t:: ts=>if X2 t≠0 then X2 t else SO ts
end
def Qgh (t:Tm) (bs:Qa) (hm:t.mass < big) (ih: ∀x∈t.kids,∀bs,call tb 42 [.agg (Qf x)] bs=some (.int .i64 (X2 x),bs)):
  ∀(post pre:Qc) (ρ:Ql),t.kids=pre ++ post->ρ 62= .sl false 4 (Qb t.kids)->ρ 63= .int .i64 t.kids.length->ρ 64= .int .i64 pre.length->
  R tb (.loop f42l1) ρ bs (Qo 3 (QB tb f42r0 (QN f42 bs)))=some (.int .i64 (SO post),bs):=by
 have hm2:=QK t;unfold big at hm;intro post
 induction post with
 | nil=>
  intro pre ρ hk h1 h2 h3;rw[Qe f42l1.eq_1];simp at hk;rw[<- hk]at h3;simp[h1,h2,h3,f42r0,SO]
 | cons x post IH=>
  intro pre ρ hk h1 h2 h3;have hg:=Qw hk;have hl:=QE hk;have hw1:=wr1 pre.length (by omega);have hlt:=QI hk;rw[Qe f42l1.eq_1];by_cases hc:X2 x=0
  ·simp[h1,h2,h3,hg,hw1,hlt,ih x (by rw[hk];simp),hc,SO];rw[IH (pre ++ [x])] <;> simp[h1,h2,hk]
  ·simp[h1,h2,h3,hg,hw1,hlt,ih x (by rw[hk];simp),hc,SO]
def Dv (t:Tm) (bs:Qa) (hm:t.mass < big) (ih: ∀x∈t.kids,∀bs,call tb 42 [.agg (Qf x)] bs=some (.int .i64 (X2 x),bs)) (ρ:Ql) (h1:ρ 1= .bx (Qf t)):
  R tb f42r1 ρ bs (QN f42 bs)=some (.int .i64 (SO t.kids),bs):=by
 simp[f42r1,h1,Zt];refine Qgh t bs hm ih t.kids [] _ rfl ?_ ?_ ?_ <;> simp
def Qgg (t:Tm) (bs:Qa) (hm:t.mass < big) (ih: ∀x∈t.kids,∀bs,call tb 42 [.agg (Qf x)] bs=some (.int .i64 (X2 x),bs)):
  ∀(post pre:Qc) (ρ:Ql),t.kids=pre ++ post->ρ 1= .bx (Qf t)->ρ 38= .sl false 4 (Qb t.kids)->ρ 39= .int .i64 t.kids.length->ρ 40= .int .i64 pre.length->
  R tb (.loop f42l0) ρ bs (Qo 1 (Qo 0 (QB tb f42r1 (QN f42 bs))))=some (.int .i64 (if post.any TH then 10 else SO t.kids),bs):=by
 have hm2:=QK t;have hm0:=hm;unfold big at hm;intro post
 induction post with
 | nil=>
  intro pre ρ hk h0 h1 h2 h3;rw[Qe f42l0.eq_1];simp at hk;rw[<- hk]at h3;simp[h0,h1,h2,h3];rw[Dv t bs hm0 ih] <;> simp[h0]
 | cons x post IH=>
  intro pre ρ hk h0 h1 h2 h3;have hg:=Qw hk;have hl:=QE hk;have hw1:=wr1 pre.length (by omega);have hlt:=QI hk;rw[Qe f42l0.eq_1];by_cases h3':x.kind=3
  ·simp[h0,h1,h2,h3,hg,hw1,hlt,Zt,h3',TH]
  ·by_cases h4:x.sort=1
   ·have hb:TH x=false:=by simp[TH,h3',h4]
    have hb3: (x.kind == 3)=false:=by simp[h3']
    simp[h0,h1,h2,h3,hg,hw1,hlt,Zt x,h3',h4,hb,hb3];rw[IH (pre ++ [x])] <;> simp[h0,h1,h2,hk,hb]
   ·have hb:TH x=true:=by simp[TH,h4]
    have hb3: (x.kind == 3)=false:=by simp[h3']
    have hb4: (x.sort != 1)=true:=by simp[h4]
    simp[h0,h1,h2,h3,hg,hw1,hlt,Zt x,h3',h4,hb,hb3,hb4]
def N9 {n:Qu} {y:Sy}: ∀{l:List Sy},Yp n l=some y->y∈l/\y.n=n
 | [],h=>by simp[Yp]at h
 | s:: ss,h=>by
  simp only[Yp]at h;split at h
  ·rename_i e;injection h with h;subst h;exact⟨by simp,e⟩
  ·have:=N9 h;exact⟨Nj _ this.1,this.2⟩
def Qfv {y:Sy} (h:y∈Wn):y.k≠0/\(y.n=[110,101,119]->y.l=1):=by
 have:Wn.all (fun y=>y.k≠0/\(y.n=[110,101,119]->y.l=1))=true:=by decide
 have:=XO.1 this y h;simpa only[Qy]using this
def Dt: ∀(t:Tm) (bs:Qa),t.mass < big->call tb 42 [.agg (Qf t)] bs=some (.int .i64 (X2 t),bs):=by
 refine Yq ?_;intro k n s ks ih bs hm;have hmk:=QK (.mk k n s ks);have ih': ∀x∈(Tm.mk k n s ks).kids,∀bs,call tb 42 [.agg (Qf x)] bs=some (.int .i64 (X2 x),bs):=fun x hx bs=>ih x hx bs (by
  have:=Q3 hx;simp at *;omega)
 have r1:=fun ρ h=>Dv (.mk k n s ks) bs hm ih' ρ h;have l0:=fun ρ h0 h1 h2 h3=>Qgg (.mk k n s ks) bs hm ih' ks [] ρ rfl h0 h1 h2 h3;simp only[Qf,Zz,Xd]at r1 l0;rw[zcc 42 rfl rfl];by_cases hk:k=3
 ·subst hk;cases hy:Yp n Wn with
  | none=>simp[f42C,Qf,WR,hy,X2]
  | some y=>
   obtain⟨hy1,hy2⟩:=N9 hy;obtain⟨hy3,hy4⟩:=Qfv hy1;by_cases ha: (ks.length:Int) < y.l
   ·simp[f42C,Qf,WR,hy,hy3,ha,VP,X2]
   ·by_cases hb:y.m < (ks.length:Int)
    ·simp[f42C,Qf,WR,hy,hy3,ha,hb,VP,X2]
    ·by_cases h1:n=[115,107]
     ·subst h1;simp[f42C,Qf,WR,hy,hy3,ha,hb,VP,X2];rw[l0] <;> simp
     ·by_cases h2:n=[115,104,107]
      ·subst h2;simp[f42C,Qf,WR,hy,hy3,ha,hb,VP,X2];rw[l0] <;> simp
      ·have b1: (n == [115,107])=false:=by simp[h1]
       have b2: (n == [115,104,107])=false:=by simp[h2]
       by_cases h3:n=[110,101,119]
       ·subst h3;have hl:=hy4 hy2;cases ks with
        | nil=>simp at ha;omega
        | cons x xs=>
         have ha': ¬((xs.length:Int)+1 < y.l):=by simpa using ha
         have hb': ¬(y.m < (xs.length:Int)+1):=by simpa using hb
         by_cases hx:x.kind=2
         ·simp[f42C,Qf,Qb,Zt x,WR,hy,hy3,ha',hb',VP,X2,hx]at *;refine(r1 _ ?_).trans ?_ <;> simp[Qb,Zt x]
         ·simp[f42C,Qf,Qb,Zt x,WR,hy,hy3,ha',hb',VP,X2,hx]
       ·have b3: (n == [110,101,119])=false:=by simp[h3]
        simp[f42C,Qf,WR,hy,hy3,ha,hb,VP,X2,h1,h2,h3,b1,b2,b3];rw[r1] <;> simp
 ·simp[f42C,Qf,hk,X2]
def thV (t:Tm):Int:=if Q4 t≠0 then Q4 t else X2 t
def P9 (t:Tm) (bs:Qa) (hm:t.mass < big):call tb 41 [.agg (Qf t)] bs=some (.int .i64 (thV t),bs):=by
 rw[zcc 41 rfl rfl];have h1:=UJ t bs hm;have h2:=Dt t bs hm;rw[Zt]at *;by_cases h:Q4 t=0
 ·simp[f41C,h1,h2,h,thV]
 ·simp[f41C,h1,h,thV]
end Go.Am
