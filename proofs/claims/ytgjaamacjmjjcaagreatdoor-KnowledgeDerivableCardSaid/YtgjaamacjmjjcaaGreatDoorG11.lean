/-
  Am21, Am22, Am23, Ge1, Ge2, Ge3, Ge4, Ge5, Ge6, Ge10, Ge11, Ge12.
-/
import Derived.Test.YtgjaamacjmjjcaaGreatDoorG07
import Derived.Test.YtgjaamacjmjjcaaGreatDoorG10
set_option linter.all false
open Go.Am.F
namespace Go.Am
abbrev Out:=Option (AV×List (List AV))
abbrev Kn:=Ex->St->Out
section
variable {T:Nat->Option AFn}
noncomputable def R (T:SD) (c:AC) (ρ:Ye) (bs:Qr) (k:Kn):Out:=match run T c ⟨ρ,bs⟩with
 | some (e,s)=>k e s
 | none=>none
noncomputable def O (T:SD) (os:So) (ρ:Ye) (bs:Qr) (k:Kn):Out:=match YO (call T) os ⟨ρ,bs⟩with
 | some s=>k .normal s
 | none=>none
noncomputable def E (T:SD) (r:Option (AV×St)) (d:Rv) (os:So) (k:Kn):Out:=match r with
 | some p=>O T os (Xj p.2.env d p.1) p.2.bs k
 | none=>none
def Ws (c b:Bool) (x y:Out):Out:=if c=b then x else y
noncomputable def Qs (T:SD) (b:AC) (k:Kn):Kn:=fun e s=>match e with
 | .normal=>match run T b s with
  | some (e,s)=>k e s
  | none=>none
 | e=>k e s
def Qh (id:Nat) (k:Kn):Kn:=fun e s=>match e with
 | .exit i=>k (if i=id then .normal else .exit i) s
 | e=>k e s
def QA (fn:ZQ) (n:Qr):Kn:=fun e s=>match e with
 | .normal=>Wi fn n s
 | .ret=>Wi fn n s
 | .exit _=>none
def Iu (x y):Ws true true x y=x:=rfl
def DU (x y):Ws false false x y=x:=rfl
def DV (x y):Ws true false x y=y:=rfl
def It (x y):Ws false true x y=y:=rfl
def Qcr (c b x):Ws c b x x=x:=by unfold Ws;split <;> rfl
def QfW (c b x y):Ws (!c) b x y=Ws c (!b) x y:=by cases c <;> cases b <;> rfl
def V8 (c b x y):Ws c b x y=if c=b then x else y:=rfl
def Qtj (ρ bs k):R T .skip ρ bs k=k .normal ⟨ρ,bs⟩:=by simp only[R,QbF]
def Qvt (ρ bs k):R T .ret ρ bs k=k .ret ⟨ρ,bs⟩:=by simp only[R,Qeu]
def Qth (a ρ bs k):R T (.exit a) ρ bs k=k (.exit a) ⟨ρ,bs⟩:=by simp only[R,QbC]
def Qvs (d a ρ bs k):R T (.reg d a) ρ bs k=O T a ρ bs k:=by
 simp only[R,O,Qet];cases YO (call T) a ⟨ρ,bs⟩ <;> rfl
def Qvu (a b ρ bs k):R T (.seq a b) ρ bs k=R T a ρ bs (Qs T b k):=by
 simp only[R,Qev];rcases run T a ⟨ρ,bs⟩with _ | x;rfl;obtain⟨e,s⟩:=x;cases e <;> rfl
def QnK (a c ρ bs k):R T (.block a c) ρ bs k=R T c ρ bs (Qh a k):=by
 simp only[R,D9];rcases run T c ⟨ρ,bs⟩with _ | x;rfl;obtain⟨e,s⟩:=x;cases e <;> rfl
def Qti (c ρ bs k):R T (.loop c) ρ bs k=R T c ρ bs (Qs T (.loop c) k):=by
 simp only[R];rw[QbE];rcases run T c ⟨ρ,bs⟩with _ | x;rfl;obtain⟨e,s⟩:=x;cases e <;> rfl
def QcI (b k ρ bs):Qs T b k .normal ⟨ρ,bs⟩=R T b ρ bs k:=rfl
def QmN (b k s):Qs T b k .ret s=k .ret s:=rfl
def Qke (b k s a):Qs T b k (.exit a) s=k (.exit a) s:=rfl
def Co (a k s):Qh a k .normal s=k .normal s:=rfl
def Qfm (a k s):Qh a k .ret s=k .ret s:=rfl
def Qb6 (a k s):Qh a k (.exit a) s=k .normal s:=by simp[Qh]
def EA (a i) (h: (i == a)=false) (k s):Qh a k (.exit i) s=k (.exit i) s:=by
 have:i≠a:=by simpa using h
 simp[Qh,this]
def Qcm (a k s):QA a k .normal s=Wi a k s:=rfl
def QlM (a k s):QA a k .ret s=Wi a k s:=rfl
noncomputable def QfE (T:SD) (v:AV) (n:Nat) (a b:AC) (ρ:Ye) (bs:Qr) (k:Kn):Out:=match v with
 | .bool c=>Ws c true (R T a (upd ρ n (.bool true)) bs k) (R T b (upd ρ n (.bool false)) bs k)
 | _=>none
def Ty {ρ n v} (h:ρ n=v):upd ρ n v=ρ:=by
 funext j;unfold upd;split;rename_i a;rw[a,h];rfl
def Qtg (n a b ρ bs k):R T (.cond (.t n) a b) ρ bs k=QfE T (ρ n) n a b ρ bs k:=by
 simp only[R,QbB,val,QfE];cases h:ρ n <;> try rfl
 rename_i c;cases c;simp only[AV.strip,It,Ty h];simp only[AV.strip,Iu,Ty h]
def QfF (c n a b ρ bs k):
  QfE T (.bool c) n a b ρ bs k=Ws c true (R T a (upd ρ n (.bool true)) bs k) (R T b (upd ρ n (.bool false)) bs k):=rfl
def Qvr (ρ bs k):O T [] ρ bs k=k .normal ⟨ρ,bs⟩:=rfl
def Qte (d a b ρ bs k):
  O T (⟨d,a,none⟩:: b) ρ bs k=E T (Qm (call T) a ⟨ρ,bs⟩) d b k:=by
 simp only[O,E,YO,YH];cases Qm (call T) a ⟨ρ,bs⟩ <;> rfl
noncomputable def FD (T:SD) (v:AV) (t:Nat) (b:Bool) (d:Rv) (op:AOp) (os:So) (ρ:Ye) (bs:Qr) (k:Kn):Out:=match v with
 | .bool c=>Ws c b (E T (Qm (call T) op ⟨upd ρ t (.bool b),bs⟩) d os k) (O T os (Xj (upd ρ t (.bool (!b))) d (.tup [])) bs k)
 | .tup []=>O T os (Xj ρ d (.tup [])) bs k
 | _=>none
def TC (d f t b g ρ bs k):
  O T (⟨d,f,some (t,b)⟩:: g) ρ bs k=FD T (ρ t) t b d f g ρ bs k:=by
 simp only[O,YO,YH,FD];cases h:ρ t <;> try rfl
 rename_i c;by_cases a:c=b;subst a;simp only[Ws,QU,Ty h,E];cases Qm (call T) f ⟨ρ,bs⟩ <;> rfl;have e:c= !b:=by cases c <;> cases b <;> simp_all
 subst e;simp only[Ws,a,ZM,Ty h];rfl;rename_i i;cases i <;> rfl
def Se (c t b d e a ρ bs k):
  FD T (.bool c) t b d e a ρ bs k=Ws c b (E T (Qm (call T) e ⟨upd ρ t (.bool b),bs⟩) d a k) (O T a (Xj (upd ρ t (.bool (!b))) d (.tup [])) bs k):=rfl
def FE (t b d c a ρ bs k):
  FD T (.tup []) t b d c a ρ bs k=O T a (Xj ρ d (.tup [])) bs k:=rfl
def Qrw (v ρ bs d a k):E T (some (v,⟨ρ,bs⟩)) (some d) a k=O T a (upd ρ d v) bs k:=rfl
def QnE (v ρ bs a k):E T (some (v,⟨ρ,bs⟩)) none a k=O T a ρ bs k:=rfl
def Qrv (d a k):E T none d a k=none:=rfl
def Qkg (ρ d v):Xj ρ (some d) v=upd ρ d v:=rfl
def Qkf (ρ v):Xj ρ none v=ρ:=rfl
def MW {f b} (h:T f=some (.code b)) (a bs) (c:a.length=b.nparams):
  call T f a bs=R T b.body (Wr a) bs (QA b bs):=by
 rw[ER,h];simp only[c,QU,R];rcases run T b.body ⟨Wr a,bs⟩with _ | x;rfl;obtain⟨e,s⟩:=x;cases e <;> rfl
def Y9 {f g} (h:T f=some (.orc g)) (a bs):call T f a bs=g a bs:=by
 rw[ER,h]
def QkZ (a b):Wr (a:: b) 0=a.strip:=rfl
def Qb5 (a b i):Wr (a:: b) (i+1)=Wr b i:=rfl
def SV (ρ i v):upd ρ i v i=v:=by simp[upd]
variable {K:Vi} (ρ:Nat->AV) (bs:List (List AV))
def Qwy (n):val ρ (.t n)=(ρ n).strip:=rfl
def Qwx (v):val ρ (.c v)=v:=rfl
end
end Go.Am
namespace Go.Am
section
variable {T:Nat->Option AFn}
def My (b:Bool):AV->Bool
 | .bool c=>c == !b
 | .tup []=>true
 | _=>false
noncomputable def O2 (T:SD) (c:Bool) (_t:Nat) (b:Bool) (os:So) (ρ1 ρ2:Ye) (bs1 bs2:Qr) (k:Kn):Out:=
 if c=b then O T os ρ1 bs1 k else O T os ρ2 bs2 k
noncomputable def E2 (T:SD) (c:Bool) (_t:Nat) (b:Bool) (r:Option (AV×St)) (d:Rv) (os:So) (ρ2:Ye) (bs2:Qr) (k:Kn):Out:=
 if c=b then E T r d os k else O T os (Xj ρ2 d (.tup [])) bs2 k
def Xi (c b:Bool) (x y:AV):AV:=if c=b then x else y
def Gm (c b:Bool) (x y:Qr):Qr:=if c=b then x else y
def mrg (c b:Bool) (ρ1 ρ2:Ye):Ye:=fun j=>Xi c b (ρ1 j) (ρ2 j)
def Qql (c b) (d a) (j):mrg c b d a j=Xi c b (d j) (a j):=rfl
def QcS (c) (t) (b) (g) (a d) (e f) (k):
  O2 T c t b g a d e f k=O T g (mrg c b a d) (Gm c b e f) k:=by
 unfold O2;split;rename_i h;have:mrg c b a d=a:=by funext j;simp[mrg,Xi,h]
 rw[this,Gm,Qg h];rename_i h;have:mrg c b a d=d:=by funext j;simp[mrg,Xi,h]
 rw[this,Gm,Qe h]
def Qtd (c) (t) (b) (f a) (d e) (k):
  O2 T c t b [] f a d e k=O T [] (mrg c b f a) (Gm c b d e) k:=QcS c t b [] f a d e k
def QnG (c) (t) (b) (d) (h) (i) (f a) (e g) (k):
  O2 T c t b (⟨d,h,none⟩:: i) f a e g k=O T (⟨d,h,none⟩:: i) (mrg c b f a) (Gm c b e g) k:=QcS c t b _ f a e g k
def QkH (c t b d j h i l g a f e k) (_h: ((h == t) && (i == b))=false):
  O2 T c t b (⟨d,j,some (h,i)⟩:: l) g a f e k=Ws c b (O T (⟨d,j,some (h,i)⟩:: l) g f k) (O T (⟨d,j,some (h,i)⟩:: l) a e k):=by
 unfold O2 Ws;rfl
def QnH (c t b d m j a e f h k) (l:a t= .bool b) (g:My b (e t)=true):
  O2 T c t b (⟨d,m,some (t,b)⟩:: j) a e f h k=E2 T c t b (Qm (call T) m ⟨a,f⟩) d j e h k:=by
 unfold O2 E2;split;rw[TC,l,Se,V8,Qg rfl,Ty l];rw[TC];unfold My at g;split at g;rename_i c i;rw[i,Se];simp only[Tp]at g;subst g;rw[V8,Qe (by cases b <;> simp),Ty i];rename_i i;rw[i,FE];cases g
def QnD (c t b v g e d h a f k):
  E2 T c t b (some (v,⟨g,e⟩)) d h a f k=O2 T c t b h (Xj g d v) (Xj a d (.tup [])) e f k:=rfl
noncomputable def G (T:SD) (v:AV) (d:Rv) (op:AOp) (t:Nat) (b:Bool) (os:So) (ρ:Ye) (bs:Qr) (k:Kn):Out:=match v with
 | .bool c=>O2 T c t b (⟨d,op,some (t,b)⟩:: os) (upd ρ t (.bool b)) (upd ρ t (.bool (!b))) bs bs k
 | .tup []=>O T os (Xj (upd ρ t (.tup [])) d (.tup [])) bs k
 | _=>none
def LC (c d g t b f e a k):
  G T (.bool c) d g t b f e a k=O2 T c t b (⟨d,g,some (t,b)⟩:: f) (upd e t (.bool b)) (upd e t (.bool (!b))) a a k:=rfl
def Qnb (d f t b c a e k):
  G T (.tup []) d f t b c a e k=O T c (Xj (upd a t (.tup [])) d (.tup [])) e k:=rfl
def QnI (d j t b g f l k):
  O T (⟨d,j,some (t,b)⟩:: g) f l k=G T (f t) d j t b g f l k:=by
 cases h:f t <;> try rw[TC,h];rfl
 rename_i c;rw[LC];unfold O2;by_cases e:c=b;subst e;simp[Ty h];have a:c= !b:=by cases c <;> cases b <;> simp_all
 subst a;rw[Ty h,Qe e];rename_i i;rcases i with _ | ⟨v,i⟩;rw[Qnb,TC,h,FE,Ty h];rw[TC,h];rfl
def Qrx (d c t b a e k):
  G T (.bool true) d c t true b a e k=E T (Qm (call T) c ⟨upd a t (.bool true),e⟩) d b k:=by
 rw[LC];unfold O2;rw[Qg rfl,TC,SV,Se,Iu,Ty (SV _ _ _)]
def QnF (d c t b a e k):
  G T (.bool false) d c t false b a e k=E T (Qm (call T) c ⟨upd a t (.bool false),e⟩) d b k:=by
 rw[LC];unfold O2;rw[Qg rfl,TC,SV,Se,DU,Ty (SV _ _ _)]
def LP:=@Bool.not_false
def QwJ (d e t b a c k):
  G T (.bool true) d e t false b a c k=O T b (Xj (upd a t (.bool true)) d (.tup [])) c k:=by
 rw[LC];unfold O2;rw[Qe (by simp),TC,SV];simp only[Se,DV,LP];rw[Ty (SV _ _ _)]
def Ml:=@Bool.not_true
def QwI (d e t b a c k):
  G T (.bool false) d e t true b a c k=O T b (Xj (upd a t (.bool false)) d (.tup [])) c k:=by
 rw[LC];unfold O2;rw[Qe (by simp),TC,SV];simp only[Se,It,Ml];rw[Ty (SV _ _ _)]
def Qkb (c b x):Xi c b x x=x:=by unfold Xi;split <;> rfl
def Qj8 (c b x):Gm c b x x=x:=by unfold Gm;split <;> rfl
def QuR (c b x y z):Xi c b (Xi c b x y) z=Xi c b x z:=by unfold Xi;split <;> simp_all
def QuS (c b x y z):Xi c b x (Xi c b y z)=Xi c b x z:=by unfold Xi;split <;> simp_all
def Qq4 (c x y z):Xi c true (Xi c false x y) z=Xi c true y z:=by cases c <;> rfl
def Qq5 (c x y z):Xi c true x (Xi c false y z)=Xi c true x y:=by cases c <;> rfl
def Qq1 (c x y z):Xi c false (Xi c true x y) z=Xi c false y z:=by cases c <;> rfl
def Qq2 (c x y z):Xi c false x (Xi c true y z)=Xi c false x y:=by cases c <;> rfl
def Qkd (c x y):Xi c false x y=Xi c true y x:=by cases c <;> rfl
def QmL (x y):Xi true true x y=x:=rfl
def Qka (x y):Xi false true x y=y:=rfl
def Qj9 (c x y):Xi c true (.bool x) (.bool y)= .bool (bif c then x else y):=by cases c <;> rfl
def QmK (c k x y):Xi c true (.int k x) (.int k y)= .int k (bif c then x else y):=by cases c <;> rfl
def QgI (c b x y): (Xi c b x y).strip=Xi c b x.strip y.strip:=by unfold Xi;split <;> rfl
def Qq3 (c b x y): (Xi c b x y).ok=if c=b then x.ok else y.ok:=by unfold Xi;split <;> rfl
def QmM (c b x y): (Xi c b x y).one=if c=b then x.one else y.one:=by unfold Xi;split <;> rfl
def Qkc (c b d x y):My d (Xi c b x y)=if c=b then My d x else My d y:=by unfold Xi;split <;> rfl
def Qcv (c b):My b (.bool c)=(c == !b):=rfl
def Qf0 (b):My b (.tup [])=true:=rfl
def Qgg (v x y:AV) (s:St):Option (AV×St):=match v with
 | .bool c=>let v:=Xi c true x y;if v.ok then some (v,s)else none
 | _=>none
def QtI {K} (c a b) (d) (e):Qm K (.pick c a b) ⟨d,e⟩=Qgg (val d c) (val d a) (val d b) ⟨d,e⟩:=by
 simp only[Qm,Qgg];cases val d c <;> try rfl
 rename_i x;cases x <;> rfl
def Qgh (c x y s):Qgg (.bool c) x y s=if(Xi c true x y).ok then some (Xi c true x y,s)else none:=rfl
end
end Go.Am
namespace Go.Am
def Qro (a i v j):upd a i v j=if j=i then v else a j:=rfl
def CC:AV.strip (.undef)= .undef:=rfl
def Qgz:AV.ok (.undef)=false:=rfl
def QcB:AV.one (.undef)=false:=rfl
def QcA:AV.gpfree (.undef)=true:=rfl
def QcE (k n):AV.strip (.int k n)= .int k n:=rfl
def Qmz (k n):AV.ok (.int k n)=true:=rfl
def Qj4 (k n):AV.one (.int k n)=true:=rfl
def QjV (k n):AV.gpfree (.int k n)=true:=rfl
def QbH (b):AV.strip (.bool b)= .bool b:=rfl
def Qj0 (b):AV.ok (.bool b)=true:=rfl
def QgB (b):AV.one (.bool b)=true:=rfl
def Qgx (b):AV.gpfree (.bool b)=true:=rfl
def QcF:AV.strip (.nlp)= .nlp:=rfl
def QmA:AV.ok (.nlp)=true:=rfl
def Qj5:AV.one (.nlp)=true:=rfl
def QjW:AV.gpfree (.nlp)=true:=rfl
def QbG:AV.strip (.anyb)= .anyb:=rfl
def QjZ:AV.ok (.anyb)=true:=rfl
def QgA:AV.one (.anyb)=true:=rfl
def Qgw:AV.gpfree (.anyb)=true:=rfl
def QcG (s):AV.strip (.str s)= .str s:=rfl
def QmB (s):AV.ok (.str s)=true:=rfl
def Qj6 (s):AV.one (.str s)=true:=rfl
def QjX (s):AV.gpfree (.str s)=true:=rfl
def QcC (a):AV.strip (.agg a)= .agg a:=rfl
def Qmx (a):AV.ok (.agg a)=true:=rfl
def Qj2 (a):AV.one (.agg a)=false:=rfl
def QjT (a):AV.gpfree (.agg a)=Q5 a:=rfl
def QgH (o z a):AV.strip (.sl o z a)= .sl false z a:=rfl
def QqZ (o z a):AV.ok (.sl o z a)=true:=rfl
def QmH (o z a):AV.one (.sl o z a)=true:=rfl
def Qmw (o z a):AV.gpfree (.sl o z a)=ZD a:=rfl
def QgD (a):AV.strip (.bx a)= .bx a:=rfl
def QqV (a):AV.ok (.bx a)=false:=rfl
def QmD (a):AV.one (.bx a)=false:=rfl
def Qmt (a):AV.gpfree (.bx a)=Q5 a:=rfl
def QgF (i o):AV.strip (.gp i o)= .gp i o:=rfl
def QqX (i o):AV.ok (.gp i o)=true:=rfl
def QmF (i o):AV.one (.gp i o)=true:=rfl
def Qmv (i o):AV.gpfree (.gp i o)=false:=rfl
def QgG (i o z n):AV.strip (.gs i o z n)= .gs i o z n:=rfl
def QqY (i o z n):AV.ok (.gs i o z n)=true:=rfl
def QmG (i o z n):AV.one (.gs i o z n)=true:=rfl
def QbI (a):AV.strip (.rptr a)= .rptr a:=rfl
def Qj1 (a):AV.ok (.rptr a)=true:=rfl
def QgC (a):AV.one (.rptr a)=true:=rfl
def Qgy (a):AV.gpfree (.rptr a)=Q5 a:=rfl
def QgE (f a):AV.strip (.fn f a)= .fn f a:=rfl
def QqW (f a):AV.ok (.fn f a)=true:=rfl
def QmE (f a):AV.one (.fn f a)=true:=rfl
def Qmu (f a):AV.gpfree (.fn f a)=Q5 a:=rfl
def QcH (a):AV.strip (.tup a)= .tup a:=rfl
def QmC (a):AV.ok (.tup a)=true:=rfl
def Qj7 (a):AV.one (.tup a)=false:=rfl
def QjY (a):AV.gpfree (.tup a)=Q5 a:=rfl
def QcD (b):AV.strip (.err b)= .err b:=rfl
def Qmy (b):AV.ok (.err b)=true:=rfl
def Qj3 (b):AV.one (.err b)=true:=rfl
def QjU (b):AV.gpfree (.err b)=true:=rfl
def Ql1 {d:Type} (p) [Decidable p] (a b c:d): (if p then(if p then a else b)else c)=if p then a else c:=by split <;> simp_all
def Ql0 {d:Type} (p) [Decidable p] (a b c:d): (if p then a else(if p then b else c))=if p then a else c:=by split <;> simp_all
attribute [simp] QcF QmA Qj5 QjW CC Qgz QcB QcA QcE Qmz Qj4 QjV QbH Qj0 QgB Qgx QbG QjZ QgA Qgw QcG QmB Qj6 QjX QcC Qmx Qj2 QjT QgH QqZ QmH Qmw QgD QqV QmD Qmt QgF QqX QmF Qmv QgG QqY QmG QbI Qj1 QgC Qgy QgE QqW QmE Qmu QcH QmC Qj7 QjY QcD Qmy Qj3 QjU Ql1 Ql0
attribute [simp] M5 Qtj Qvt Qth Qvs Qvu QnK Qtg Qvr Qte QnI Qrw QnE Qrv Qkg Qkf QfF QcI QmN Qke Co Qfm Qb6 Qcm QlM Iu DV DU It QfW Qcr Qm Qwy Qwx QkZ Qb5 Qn aun Wi WL Tw Q5 ZD VJ XH cellsOf put Qro Qtd QnG QkH QnH QnD Qql LC Qnb Qcv Qf0 Qkb Qj8 QuR QuS Qq4 Qq5 Qq1 Qq2 Qkd QmL Qka Qj9 QmK QgI Qq3 QmM Qkc Qgh
attribute [simp ↓] QtI
attribute [simp 2000] Qrx QnF QwJ QwI
def Qcs (c x y):Ws c false x y=Ws c true y x:=by cases c <;> rfl
def Qcq (c x y s):Ws c true (some (.bool x,s)) (some (.bool y,s))=some (.bool (bif c then x else y),s):=by cases c <;> rfl
def QaG (c k x y s):Ws c true (some (.int k x,s)) (some (.int k y,s))=some (.int k (bif c then x else y),s):=by cases c <;> rfl
def Qb {T c d} (h:c=d) (a b k):R T (.loop c) a b k=R T d a b (Qs T (.loop c) k):=by
 subst h;exact Qti c a b k
attribute [simp] toI
def Ql {c:Type} (x) (d:List c): (x:: d)[0]? =some x:=rfl
attribute [simp] Qcs Qcq QaG U1 Wq Ya Bool.cond_decide
def QC {n} (a: -9223372036854775808<=n) (d:n < 9223372036854775808):IntKind.i64.wrap n=n:=by
 simp only[IntKind.wrap_i64];omega
def wr1 (n:Nat) (h:n+1 < 9223372036854775808):IntKind.i64.wrap ((n:Int)+1)=(n:Int)+1:=QC (by omega) (by omega)
def QD {c:Type} {l b a} {x:c} (h:l=b ++ x:: a):l.length=b.length+ (a.length+1):=by rw[h];simp
def QF {c:Type} {l b a} {x:c} (h:l=b ++ x:: a): (b.length:Int) < (l.length:Int):=by have:=QD h;omega
@[simp] def QxB (n a):stV (.t n) a=a.map AV.strip:=rfl
@[simp] def Qxy (z a):stV (.c (.sl true z [])) a=a.map fun _=> .sl true z []:=rfl
@[simp] def Qxx (k n a):stV (.c (.int k n)) a=a.map AV.strip:=rfl
@[simp] def Qxz (s a):stV (.c (.str s)) a=a.map AV.strip:=rfl
@[simp] def Qxm (b a):stV (.c (.bool b)) a=a.map AV.strip:=rfl
@[simp] def Qxv (b a):stV (.c (.agg b)) a=a.map AV.strip:=rfl
@[simp] def Qxw (b a):stV (.c (.err b)) a=a.map AV.strip:=rfl
@[simp] def Qxr (i o k):Lw (.gs i o 0 0) (.sl true k [])= .sl true k []:=rfl
@[simp] def Qxh (k n z):Lw (.int k n) z= .int k n:=rfl
@[simp] def Qxi (s z):Lw (.str s) z= .str s:=rfl
@[simp] def QwF (b z):Lw (.bool b) z= .bool b:=rfl
@[simp] def Qxs (o k a z):Lw (.sl o k a) z= .sl false k a:=rfl
attribute [simp] U4
@[simp] def Qwn (i):AV.strip (.mp i)= .mp i:=rfl
@[simp] def QuO (z b a):AV.strip (.otup z b a)= .tup (.sl false z b:: a):=rfl
@[simp] def QwG (z b a):AV.ok (.otup z b a)=true:=rfl
@[simp] def Qwm (z b a):AV.gpfree (.otup z b a)=(ZD b && Q5 a):=rfl
@[simp] def Qwo (z a):AV.strip (.pv z a)= .pv z a:=rfl
@[simp] def Qxu (z a):AV.ok (.pv z a)=false:=rfl
@[simp] def Qxt (i):AV.ok (.mp i)=true:=rfl
@[simp] def Qxl (i):AV.one (.mp i)=true:=rfl
@[simp] def Qxk (i):AV.gpfree (.mp i)=false:=rfl
def PI:=@Bool.true_or
def V4:=@Bool.true_and
@[simp] def MZ: ∀a:Qr,X4 a a=true
 | []=>rfl
 | x:: b=>by simp only[X4,XV,MZ b,PI,V4]
@[simp] def QwQ (a):X4 [] a=true:=rfl
@[simp] def Qch (a b c):X4 (a ++ b) (a ++ c)=X4 b c:=by
 induction a with | nil=>rfl | cons x e d=>simp only[Xb,X4,XV,d,PI,V4]
@[simp] def QwP (a c):X4 a (a ++ c)=true:=by
 have:=Qch a [] c;simpa using this
@[simp] def QwB (x b a):X4 (x:: b) (x:: a)=X4 b a:=by simp only[X4,XV,PI,V4]
def LK:=@List.set_cons_zero
def LM:=@List.set_cons_succ
@[simp] def Qab {c} (h:Q5 c=true): ∀b i,X4 b (b.set i c)=true
 | [],_=>rfl
 | x:: a,0=>by simp only[LK,X4,h,MZ,Bool.or_true,US]
 | x:: a,i+1=>by simp only[LM,X4,XV,Qab h a i,PI,US]
def ET: ∀{c d},c.length<=d.length->(∀(i:Nat) x y,c[i]? =some x->d[i]? =some y->x=y\/Q5 y=true)->X4 c d=true
 | [],_,_,_=>rfl
 | _:: _,[],h,_=>by simp at h
 | x:: c,y:: d,h,f=>by
  simp only[X4,Qu,Wo];refine⟨?_,ET (by simpa using h) fun i a b g j=>f (i+1) a b (by simpa using g) (by simpa using j)⟩;rcases f 0 x y rfl rfl with e | e;subst e;exact .inl (XV x);exact .inr e
@[simp] def Qxp {x y} (h:Q5 y=true) (b a):X4 (x:: b) (y:: a)=X4 b a:=by simp only[X4,h,Bool.or_true,V4]
@[simp] def Qu5:Q5 []=true:=rfl
@[simp] def QaE (x a):Q5 (x:: a)=(x.gpfree && Q5 a):=rfl
@[simp] def Qco: ∀n:Nat,Q5 (List.replicate n .undef)=true
 | 0=>rfl
 | n+1=>by rw[Rx,QaE,Qco n];rfl
@[simp] def Qtq (a i):X4 a (a.set i [])=true:=Qab rfl a i
def zcc (n:Nat) {fn:ZQ} (h:tb n=some (.code fn)) {args:QB} {bs:Qr} (hl:args.length=fn.nparams):
  call tb n args bs=R tb fn.body (Wr args) bs (QA fn bs):=MW h args bs hl
end Go.Am
namespace Go.Am
set_option maxRecDepth 20000
def J9 (a b c):call tb 32 [.int .i64 a,.int .i64 b] c=some (.int .i64 (if a < b then -1 else if a > b then 1 else 0),c):=by
 rw[zcc 32 rfl rfl];simp[f32,f32C]
def TU (c:UInt8):Bool:=(97<=c.toNat && c.toNat<=122) || (65<=c.toNat && c.toNat<=90) || (48<=c.toNat && c.toNat<=57) || c.toNat == 95 || c.toNat == 35
def JM:=@Bool.eq_iff_iff
def A7 (n m:Nat): ((n:Int) == (m:Int))=(n == m):=by rw[JM,Tp,Tp];omega
def Fk (n:Nat): ((n:Int) == 95)=(n == 95):=A7 n 95
def Fj (n:Nat): ((n:Int) == 35)=(n == 35):=A7 n 35
def J8 (c a):call tb 9 [.int .u8 c.toNat] a=some (.bool (TU c),a):=by
 rw[zcc 9 rfl rfl];simp (config:={maxSteps:=1000000}) [f9,f9C,TU,Fk,Fj];have i: ∀m:Nat,((m:Int)<=(c.toNat:Int))=(m<=c.toNat):=fun m=>by simp
 have h: ∀m:Nat,((c.toNat:Int)<=(m:Int))=(c.toNat<=m):=fun m=>by simp
 simp only[show(97:Int)=((97:Nat):Int)from rfl,show(122:Int)=((122:Nat):Int)from rfl,show(65:Int)=((65:Nat):Int)from rfl,show(90:Int)=((90:Nat):Int)from rfl,show(48:Int)=((48:Nat):Int)from rfl,show(57:Int)=((57:Nat):Int)from rfl,i,h];by_cases f:97<=c.toNat <;> by_cases j:c.toNat<=122 <;> by_cases g:65<=c.toNat <;> by_cases e:c.toNat<=90 <;> by_cases b:48<=c.toNat <;> by_cases d:c.toNat<=57 <;> simp[f,j,g,e,b,d]
def Qcu (s f) (n:s.length < 4611686018427387904): ∀(k i:Nat) d,s.length - i=k->i<=s.length->d 0= .str s->d 38= .int .i64 s.length->d 39= .int .i64 i->
  R tb (.loop f8l0) d f (Qh 0 (Qs tb f8r0 (QA f8 f)))=some (.bool ((s.drop i).all TU),f):=by
 intro k;induction k with | zero=>intro i d j l e a b;(have:i=s.length:=by omega);subst this;rw[Qb f8l0.eq_1];simp[e,a,b,f8r0] | succ k m=>intro i d j l e a b;(have c:i < s.length:=by omega);have h:IntKind.i64.wrap ((i:Int)+1)=((i+1:Nat):Int):=QC (by omega) (by omega);rw[Qb f8l0.eq_1,LG c,Tl];cases g:TU s[i];simp[e,a,b,c,J8,g];simp[e,a,b,c,J8,g,h];rw[m (i+1)] <;> first | rfl | omega | simp[e,a]
def VQ:Yi->Bool
 | []=>false
 | c:: r=>decide (r.length < 24) && TU c && !(decide (48<=c.toNat) && decide (c.toNat<=57)) && c.toNat != 95 && c.toNat != 35 && r.all TU
def UT:=@eq_iff_iff
def Qcd (s a) (h:s.length < 4611686018427387904):call tb 8 [.str s] a=some (.bool (VQ s),a):=by
 rw[zcc 8 rfl rfl];rcases s with _ | ⟨c,r⟩;simp[f8C,VQ];simp (config:={maxSteps:=1000000}) [f8C,J8,(Qcu (c:: r) a h ((c:: r).length - 0) 0),Fk,Fj];have i: (24 < (r.length:Int)+1)=(¬r.length < 24):=by rw[UT];omega
 have f: ((48:Int)<=(c.toNat:Int))=(48<=c.toNat):=by rw[UT];omega
 have g: ((c.toNat:Int)<=57)=(c.toNat<=57):=by rw[UT];omega
 simp only[VQ,i,f,g,bne];by_cases d:r.length < 24 <;> by_cases b:48<=c.toNat <;> by_cases e:c.toNat<=57 <;> cases TU c <;> simp[d,b,e]
end Go.Am
namespace Go.Am
set_option maxRecDepth 20000
attribute [simp] E4 E5
attribute [simp] UI Yy S8 ZJ
attribute [simp] QX Xf XA Zc Qc DG Qiw Qix Qiy Qiz QdM QdN QdO QdP Ha ZL
attribute [simp] Int.toNat_natCast
attribute [simp] E4 E5
def Jr (t:Tm) (e) (m:t.mass < big) (o: ∀x∈t.kids,∀e,call tb 31 [.agg (Qd x)] e=some (.int .i64 x.nodes,e)):
  ∀b a d,t.kids=a ++ b->d 7= .sl false 4 (Qa t.kids)->d 8= .int .i64 t.kids.length->d 9= .int .i64 a.length->d 3= .int .i64 (1+Qp a:Nat)->
  R tb (.loop f31l0) d e (Qh 0 (Qs tb f31r0 (QA f31 e)))=some (.int .i64 t.nodes,e):=by
 have n:=QL t;have q:=YN t.kids;unfold big at m;intro b;induction b with | nil=>intro a d c g f h i;rw[Qb f31l0.eq_1];simp at c;simp[i,f,h,<- c,f31r0,WE] | cons x b k=>intro a d c g f h i;have p:=QD c;(have l:Qp t.kids=Qp a+ (x.nodes+Qp b):=by rw[c,ZK];simp[Qp]);have j:IntKind.i64.wrap (1+ (Qp a:Int)+ (x.nodes:Int))=1+ (Qp a:Int)+ (x.nodes:Int):=QC (by omega) (by omega);rw[Qb f31l0.eq_1];simp[i,g,f,h,(Qv c),(wr1 a.length (by omega)),j,(QF c),o x (by rw[c];simp)];rw[k (a ++ [x])] <;> simp[g,f,c,ZK,Qp];omega
def Nn: ∀t a,t.mass < big->call tb 31 [.agg (Qd t)] a=some (.int .i64 t.nodes,a):=by
 refine Yp ?_;intro k n s b e a d;rw[zcc 31 rfl rfl];simp[f31C];refine Jr (.mk k n s b) a d (fun x c a=>e x c a ?_) b [] _ ?_ ?_ ?_ ?_ ?_ <;> (try simp[Qp]);have:=QR c;have:=QL (.mk k n s b);simp at *;omega
end Go.Am
namespace Go.Am
set_option maxRecDepth 20000
def two (bs:Qr) (i j:Nat) (n d:Int):Qr:=(bs.set i [.int .i64 n]).set j [.int .i64 d]
section
variable {bs:List (List AV)} {i j:Nat} {n d m:Int}
def N9: (two bs i j n d).length=bs.length:=by simp[two]
def Qnv (b:i < bs.length) (a:i≠j): (two bs i j n d)[i]? =some [.int .i64 n]:=by
 rw[two,Ti (Ne.symm a),Py b]
def Qnw (a:j < bs.length): (two bs i j n d)[j]? =some [.int .i64 d]:=by simp[two,a]
def Qm5 (a:i≠j): (two bs i j n d).set i [.int .i64 m]=two bs i j m d:=by
 simp only[two];rw[JU _ _ (Ne.symm a),T6]
@[simp] def Qac {f g}:X4 (two bs i j n d) (two bs i j f g)=true:=ET (by simp[N9]) fun k x y b a=>by
 unfold two at b a;rw[QG]at b a;split at a;split at a;cases a;exact .inr rfl;cases a;rename_i c;rw[Qe c]at b;rw[QG]at b a;split at a;split at a;cases a;exact .inr rfl;cases a;rename_i e;rw[Qe e,a]at b;injection b with b;exact .inl b.symm
def Qm6: (two bs i j n d).set j [.int .i64 m]=two bs i j n m:=by simp[two]
end
def RD (t:Tm):Int:=
 if t.kind=1\/t.kind=2 then
  if(t.sort < 0\/5 < t.sort)\/0 < t.kids.length then 1 else if VQ t.name=false then 2 else if 8 < t.kids.length then 3 else 0
 else if t.kind=3 then
  if t.sort≠0 then 1 else if VQ t.name=false then 2 else if 8 < t.kids.length then 3 else 0
 else 1
mutual
def Y6:Tm->Int
 | .mk k n s ks=>if RD (.mk k n s ks)≠0 then RD (.mk k n s ks)else Uq ks
def Uq:List Tm->Int
 | []=>0
 | t:: ts=>if Y6 t≠0 then Y6 t else Uq ts
end
mutual
def TK:Tm->Int->Int×Int->Int×Int
 | .mk k n s ks,l,p=>if RD (.mk k n s ks)≠0 then(p.1+1,if l > p.2 then l else p.2)else Ri ks l (p.1+1,if l > p.2 then l else p.2)
def Ri:List Tm->Int->Int×Int->Int×Int
 | [],_,p=>p
 | t:: ts,l,p=>if Y6 t≠0 then TK t (l+1) p else Ri ts l (TK t (l+1) p)
end
mutual
theorem QdG: ∀(t:Tm) (l:Int) (p:Int×Int),p.1<=(TK t l p).1/\(TK t l p).1<=p.1+t.nodes
 | .mk k n s ks,l,p=>by
  simp only[TK,Tm.nodes];have:=QdE ks l (p.1+1,if l > p.2 then l else p.2);split <;> simp at * <;> omega
theorem QdE: ∀(ts:List Tm) (l:Int) (p:Int×Int),p.1<=(Ri ts l p).1/\(Ri ts l p).1<=p.1+Qp ts
 | [],l,p=>by simp[Ri,Qp]
 | t:: ts,l,p=>by
  simp only[Ri,Qp];have:=QdG t (l+1) p;have:=QdE ts l (TK t (l+1) p);split <;> omega
end
def Qfz (t:Tm) (l:Int) (bs i j) (N:i < bs.length) (L:j < bs.length) (w:i≠j) (O:t.mass < big) (M:0<=l/\l+t.depth<=big) (E I)
  (D: ∀x∈t.kids,∀n d:Int,0<=n->n+x.nodes < 2*big->call tb 7 [.agg (Qd x),.int .i64 (l+1),.gp i 0,.gp j 0] (two bs i j n d)=some (.int .i64 (Y6 x),two bs i j (TK x (l+1) (n,d)).1 (TK x (l+1) (n,d)).2)):
  ∀a b (n d:Int) g,0<=n->n+Qp a < 2*big->t.kids=b ++ a->g 57= .sl false 4 (Qa t.kids)->g 58= .int .i64 t.kids.length->g 59= .int .i64 b.length->
   g 1= .int .i64 l->g 2= .gp i 0->g 3= .gp j 0->
  R tb (.loop f7l0) g (two bs i j n d) (Qh 1 (Qs tb f7r0 (QA f7 (two bs i j E I))))=
   some (.int .i64 (Uq a),two bs i j (Ri a l (n,d)).1 (Ri a l (n,d)).2):=by
 have K:=QL t;have J:=Ks t;unfold big at *;have H:=Ne.symm w;intro a;induction a with | nil=>intro b n d g A p h e c f s u r;rw[Qb f7l0.eq_1];simp at h;simp[e,c,f,<- h,f7r0,Uq,Ri,N9];rw[Z2 (by simp[N9])];exact⟨Qac,rfl⟩ | cons x a C=>intro b n d g A p h e c f s u r;have B:=Qv h;(have z:t.kids.length=b.length+ (a.length+1):=by rw[h];simp);simp only[Qp]at p;have k:=wr1 b.length (by omega);have q:IntKind.i64.wrap (l+1)=l+1:=QC (by omega) (by omega);(have o: (b.length:Int) < (t.kids.length:Int):=by omega);have y:=D x (by rw[h];simp) n d A (by omega);have G:=QdG x (l+1) (n,d);rw[Qb f7l0.eq_1];by_cases v:Y6 x=0;simp[s,u,r,e,c,f,B,k,q,o,y,v];simp only[Uq,Ri,v,ne_eq,not_true,ZM];rw[C (b ++ [x])] <;> (first | simp at G;omega | simp[s,u,r,e,c,h]);simp[s,u,r,e,c,f,B,k,q,o,y,v,Uq,Ri];rw[Z2 (by simp[N9])];exact⟨Qac,rfl⟩
def Qfv: ∀t (l:Int) bs i j (n d:Int),i < bs.length->j < bs.length->i≠j->t.mass < big->0<=l->l+t.depth<=big->0<=n->n+t.nodes < 2*big->
  call tb 7 [.agg (Qd t),.int .i64 l,.gp i 0,.gp j 0] (two bs i j n d)=some (.int .i64 (Y6 t),two bs i j (TK t l (n,d)).1 (TK t l (n,d)).2):=by
 refine Yp ?_;intro k v s c Q l bs i j n d A z e D P p K h;have q:=QL (.mk k v s c);have w:=WE (.mk k v s c);have r:=Ks (.mk k v s c);simp only[ZJ,Yy]at q w r;have N:=Sw c;have I:=YN c;have f: ∀g:Ye,g 57= .sl false 4 (Qa c)->g 58= .int .i64 c.length->g 59= .int .i64 0->g 1= .int .i64 l->g 2= .gp i 0->g 3= .gp j 0->R tb (.loop f7l0) g (two bs i j (n+1) (if l > d then l else d)) (Qh 1 (Qs tb f7r0 (QA f7 (two bs i j n d))))=some (.int .i64 (Uq c),two bs i j (Ri c l (n+1,if l > d then l else d)).1 (Ri c l (n+1,if l > d then l else d)).2):=by intro g C B M J L S;refine Qfz (.mk k v s c) l bs i j A z e D ⟨P,p⟩ n d ?_ c [] (n+1) (if l > d then l else d) g (by omega) (by omega) rfl C B M J L S;intro x E n d K h;have J:=QR E;have L:=Fo E;simp only[ZJ]at J L;exact Q x E (l+1) bs i j n d A z e (by omega) (by omega) (by omega) K h
 unfold big at D h;have O:IntKind.i64.wrap (n+1)=n+1:=QC (by omega) (by omega);have G:=Ne.symm e;have y: ∀(a b:Int),List.take bs.length (two bs i j a b)=two bs i j a b:=fun a b=>Z2 (by simp[N9]);have o:v.length < 4611686018427387904:=by omega
 have u: ((8:Int) < c.length)=(8 < c.length):=by rw[UT];omega
 rw[zcc 7 rfl rfl];simp (config:={maxSteps:=1000000}) [f7C,O,Qnv A e,Qnw z,Qm5 e,Qm6,N9,Qcd,o,y,u];simp only[gt_iff_lt]at f;clear Q D P p K h q w r N I O y o u A z e G;generalize H: (if d < l then l else d)=T at *;simp only[V8,QM,Wo];repeat' split
 all_goals simp only[Y6,TK,RD,UI,S8,Yy,ZJ,gt_iff_lt,H]
 all_goals first | rw[f] <;> simp[*];done | simp[*];done | skip
def QZ (t:Tm):Int:=if Y6 t≠0 then Y6 t else if 400 < t.nodes\/40 < t.depth then 3 else 0
mutual
theorem QdH: ∀(t:Tm) (l:Int) (p:Int×Int),Y6 t=0->TK t l p=(p.1+t.nodes,max p.2 (l+t.depth - 1))
 | .mk k n s ks,l,p,h=>by
  simp only[Y6]at h;split at h
  ·rename_i hne;exact absurd h hne
  ·rename_i hne;simp only[TK,hne,ZM,Tm.nodes,Tm.depth];rw[QdF ks l _ h];refine Prod.ext ?_ ?_
   ·simp;omega
   ·cases ks with
    | nil=>simp[XF,Qp];split <;> omega
    | cons t ts=>simp[XF];split <;> omega
theorem QdF: ∀(ts:List Tm) (l:Int) (p:Int×Int),Uq ts=0->Ri ts l p=(p.1+Qp ts,if ts=[]then p.2 else max p.2 (l+XF ts))
 | [],l,p,_=>by simp[Ri,Qp]
 | t:: ts,l,p,h=>by
  simp only[Uq]at h;split at h
  ·rename_i hne;exact absurd h hne
  ·rename_i hne;have he:Y6 t=0:=by simpa using hne
   simp only[Ri,hne,ZM,Qp,XF];rw[QdF ts l _ h,QdH t (l+1) p he];refine Prod.ext ?_ ?_
   ·simp;omega
   ·cases ts with
    | nil=>simp[XF];omega
    | cons u us=>simp[XF];omega
end
def TJ (t bs) (e:t.mass < big):call tb 6 [.agg (Qd t)] bs=some (.int .i64 (QZ t),bs):=by
 have f:bs ++ [[AV.int .i64 0],[AV.int .i64 0]]=two (bs ++ [[AV.int .i64 0],[AV.int .i64 0]]) bs.length (bs.length+1) 0 0:=by simp[two]
 have k:=Yu t;have l:=LX t;have o:big=1099511627776:=rfl;have c:=Qfv t 1 (bs ++ [[AV.int .i64 0],[AV.int .i64 0]]) bs.length (bs.length+1) 0 0 (by simp) (by simp) (by omega) e (by omega) (by omega) (by omega) (by omega);rw[<- f]at c;have a:List.take bs.length (two (bs ++ [[AV.int .i64 0],[AV.int .i64 0]]) bs.length (bs.length+1) (TK t 1 (0,0)).1 (TK t 1 (0,0)).2)=bs:=by simp[two]
 rw[zcc 6 rfl rfl];simp[f6C,c,(Qnv (bs:=bs ++ [[AV.int .i64 0],[AV.int .i64 0]]) (i:=bs.length) (j:=bs.length+1) (n:=(TK t 1 (0,0)).1) (d:=(TK t 1 (0,0)).2) (by simp) (by omega)),(Qnw (bs:=bs ++ [[AV.int .i64 0],[AV.int .i64 0]]) (i:=bs.length) (j:=bs.length+1) (n:=(TK t 1 (0,0)).1) (d:=(TK t 1 (0,0)).2) (by simp)),a,QZ];by_cases b:Y6 t=0;have:=Ks t;have g: (400 < (t.nodes:Int))=(400 < t.nodes):=by rw[UT];omega
 have h: (40 < (max 0 (1+ (t.depth:Int) - 1)))=(40 < t.depth):=by rw[UT];omega
 simp[b,(QdH t 1 (0,0)) b,g,h];simp[b]
end Go.Am
namespace Go.Am
set_option maxRecDepth 20000
def Ko (a b c):call tb 32 [.int .i64 a,.int .i64 b] c=some (.int .i64 (sgn a b),c):=J9 a b c
def HO (a b c):call tb 33 [.str a,.str b] c=some (.int .i64 (Vs a b),c):=by
 rw[Y9 tb_33];rfl
def Mc (t u h) (C:t.mass < big) (A:u.mass < big)
  (B: ∀x∈t.kids,∀y h,y.mass < big->call tb 30 [.agg (Qd x),.agg (Qd y)] h=some (.int .i64 (Qo x y),h)):
  ∀f g a b c j,t.kids=a ++ f->u.kids=b ++ g->a.length=b.length->(c=0->f.length=g.length)->
   j 2= .bx (Qd t)->j 3= .bx (Qd u)->j 5= .int .i64 c->j 6= .int .i64 a.length->
  R tb (.loop f30l0) j h (Qh 0 (Qs tb f30r0 (QA f30 h)))=some (.int .i64 (or0 c (WU f g)),h):=by
 have z:=QL t;have D:=QL u;intro f;induction f with | nil=>intro g a b c j k e p v l q m n;rw[Qb f30l0.eq_1];simp at k;by_cases i:c=0;simp[l,m,n,i,f30r0,k,WU,CL];simp[l,m,n,i,f30r0,WU,CL] | cons x f w=>intro g a b c j k e p v l q m n;rw[Qb f30l0.eq_1];by_cases i:c=0;(· (obtain⟨y,d,rfl⟩: ∃y d,g=y:: d:=by have:=v i;rcases g with _ | ⟨y,d⟩;simp at this;exact⟨y,d,rfl⟩);have o:=Qv e;rw[<- p]at o;(have E:t.kids.length=a.length+ (f.length+1):=by rw[k];simp);(have r: (a.length:Int) < (t.kids.length:Int):=by omega);(have s:y.mass < big:=by have:=QR (x:=y) (ks:=u.kids) (by rw[e];simp);omega);unfold big at C A;simp[l,q,m,n,i,r,(Qv k),o,(wr1 a.length (by omega)),B x (by rw[k];simp) y h s];rw[w d (a ++ [x]) (b ++ [y]) (Qo x y)] <;> first | omega | simp[k,e,p,l,q,WU,Rb];done | intro _;have:=v i;simp at this;omega);simp[l,m,n,i,f30r0,MG]
def call_Compare: ∀t u a,t.mass < big->u.mass < big->call tb 30 [.agg (Qd t),.agg (Qd u)] a=some (.int .i64 (Qo t u),a):=by
 refine Yp ?_;intro k n s b j u a h i;rw[zcc 30 rfl rfl,Oq];simp[f30C,(Nn (.mk k n s b) a h),(Nn u a i),Ko,HO];by_cases f:sgn (Tm.mk k n s b).nodes u.nodes=0 <;> by_cases c:sgn k u.kind=0 <;> by_cases d:Vs n u.name=0 <;> by_cases e:sgn s u.sort=0 <;> simp[f,c,d,e,V8] <;> rw[(Mc (.mk k n s b) u a h i (fun x g y a l=>j x g y a (by have:=QR g;have:=QL (.mk k n s b);simp at *;omega) l) b u.kids [] [] (hdT (.mk k n s b) u))] <;> first | simp[hdT,f,c,d,e,Rb,MG];done | simp[hdT,f,c,d,e,MN,Rb];omega | skip
def Qfb (t e) (k:t.mass < big) (n: ∀x∈t.kids,∀e,call tb 60 [.agg (Qd x)] e=some (.int .i64 x.nodes,e)):
  ∀b a d,t.kids=a ++ b->d 1= .bx (Qd t)->d 4= .int .i64 a.length->d 3= .int .i64 (1+Qp a:Nat)->
  R tb (.loop f60l0) d e (Qh 0 (Qs tb f60r0 (QA f60 e)))=some (.int .i64 t.nodes,e):=by
 have l:=QL t;have o:=YN t.kids;unfold big at k;intro b;induction b with | nil=>intro a d c f g h;rw[Qb f60l0.eq_1];simp at c;simp[f,h,g,<- c,f60r0,WE] | cons x b j=>intro a d c f g h;have p:=QD c;(have m:Qp t.kids=Qp a+ (x.nodes+Qp b):=by rw[c,ZK];simp[Qp]);have i:IntKind.i64.wrap (1+ (Qp a:Int)+ (x.nodes:Int))=1+ (Qp a:Int)+ (x.nodes:Int):=QC (by omega) (by omega);rw[Qb f60l0.eq_1];simp[h,f,g,(Qv c),(wr1 a.length (by omega)),i,(QF c),n x (by rw[c];simp)];rw[j (a ++ [x])] <;> simp[f,c,ZK,Qp];omega
def Km: ∀t a,t.mass < big->call tb 60 [.agg (Qd t)] a=some (.int .i64 t.nodes,a):=by
 refine Yp ?_;intro k n s b e a d;rw[zcc 60 rfl rfl];simp[f60C];refine Qfb (.mk k n s b) a d (fun x c a=>e x c a ?_) b [] _ ?_ ?_ ?_ ?_ <;> (try simp[Qp]);have:=QR c;have:=QL (.mk k n s b);simp at *;omega
def Cs (a b):XF (a ++ b)=max (XF a) (XF b):=by
 induction a with | nil=>simp[XF] | cons t d c=>simp[XF,c]
def QbZ (t e) (k:t.mass < big) (n: ∀x∈t.kids,∀e,call tb 61 [.agg (Qd x)] e=some (.int .i64 x.depth,e)):
  ∀b a d,t.kids=a ++ b->d 1= .bx (Qd t)->d 4= .int .i64 a.length->d 3= .int .i64 (XF a:Nat)->
  R tb (.loop f61l0) d e (Qh 0 (Qs tb f61r0 (QA f61 e)))=some (.int .i64 t.depth,e):=by
 have l:=QL t;have o:=Sw t.kids;have m:=YN t.kids;unfold big at k;intro b;induction b with | nil=>intro a d c f g h;rw[Qb f61l0.eq_1];simp at c;have i:IntKind.i64.wrap ((XF a:Int)+1)=(XF a:Int)+1:=QC (by omega) (by rw[<- c];omega);simp[f,h,g,c,i,f61r0,Ks] | cons x b j=>intro a d c f g h;have p:=QD c;rw[Qb f61l0.eq_1];simp[h,f,g,(Qv c),(wr1 a.length (by omega)),(QF c),n x (by rw[c];simp)];rw[j (a ++ [x])] <;> simp[f,c,Cs,XF];split <;> omega
def Qb9: ∀t a,t.mass < big->call tb 61 [.agg (Qd t)] a=some (.int .i64 t.depth,a):=by
 refine Yp ?_;intro k n s b e a d;rw[zcc 61 rfl rfl];simp[f61C];refine QbZ (.mk k n s b) a d (fun x c a=>e x c a ?_) b [] _ ?_ ?_ ?_ ?_ <;> (try simp[XF]);have:=QR c;have:=QL (.mk k n s b);simp at *;omega
def AX (a b c):call tb 91 [.int .i64 a,.int .i64 b] c=some (.int .i64 (sgn a b),c):=by
 rw[zcc 91 rfl rfl];simp[f91,f91C,sgn]
def Cl (t u f) (A:t.mass < big) (z:u.mass < big)
  (w: ∀x∈t.kids,∀y f,y.mass < big->call tb 90 [.agg (Qd x),.agg (Qd y)] f=some (.int .i64 (Qo x y),f)):
  ∀g i a b j,t.kids=a ++ g->u.kids=b ++ i->a.length=b.length->g.length=i.length->
   j 2= .bx (Qd t)->j 3= .bx (Qd u)->j 9= .int .i64 a.length->
  R tb (.loop f90l0) j f (Qh 0 (Qs tb f90r0 (QA f90 f)))=some (.int .i64 (WU g i),f):=by
 have B:=QL t;have D:=QL u;intro g;induction g with | nil=>intro i a b j e d q s l o p;rw[Qb f90l0.eq_1];simp at e;simp[l,p,f90r0,e,WU] | cons x g C=>intro i a b j e d q s l o p;rw[Qb f90l0.eq_1];(obtain⟨y,c,rfl⟩: ∃y c,i=y:: c:=by rcases i with _ | ⟨y,c⟩;simp at s;exact⟨y,c,rfl⟩);have v:=Qv e;have h:=Qv d;rw[<- q]at h;(have E:t.kids.length=a.length+ (g.length+1):=by rw[e];simp);(have k: (a.length:Int) < (t.kids.length:Int):=by omega);(have n:y.mass < big:=by have:=QR (x:=y) (ks:=u.kids) (by rw[d];simp);omega);unfold big at A z;have m:=wr1 a.length (by omega);by_cases r:Qo x y=0;(· simp[l,o,p,r,k,v,h,m,w x (by rw[e];simp) y f n];rw[C c (a ++ [x]) (b ++ [y])] <;> first | omega | simp[e,d,q,r,l,o,WU,Rb];done | simp at s;omega);simp[l,o,p,r,k,v,h,m,w x (by rw[e];simp) y f n,WU,MG]
def UH: ∀t u a,t.mass < big->u.mass < big->call tb 90 [.agg (Qd t),.agg (Qd u)] a=some (.int .i64 (Qo t u),a):=by
 refine Yp ?_;intro k n s b h u a f e;rw[zcc 90 rfl rfl,Oq];simp[f90C,(Km (.mk k n s b) a f),(Km u a e),AX];have i:Vs n u.name=if Op.bytesLess n u.name then -1 else if(Op.bytesLess n u.name || n == u.name)=false then 1 else 0:=by unfold Vs;cases Op.bytesLess n u.name <;> cases o: (n == u.name) <;> simp
 generalize (n == u.name)=q at *;generalize Op.bytesLess n u.name=p at *;by_cases l:sgn (Tm.mk k n s b).nodes u.nodes=0 <;> by_cases g:sgn k u.kind=0 <;> cases p <;> cases q <;> by_cases m:sgn s u.sort=0 <;> by_cases c:sgn b.length u.kids.length=0 <;> simp[l,g,m,c,V8,hdT,Rb,MG,i];all_goals rw[(Cl (.mk k n s b) u a f e (fun x d y a j=>h x d y a (by have:=QR d;have:=QL (.mk k n s b);simp at *;omega) j) b u.kids [] [])] <;> (try simp) <;> (try have:=MN.1 c;omega)
def W2 (t u a) (b:t.mass < big) (c:u.mass < big):call tb 89 [.agg (Qd t),.agg (Qd u)] a=some (.bool (decide (Qo t u=0)),a):=by
 rw[zcc 89 rfl rfl];simp[f89,f89C,UH t u a b c]
end Go.Am
namespace Go.Am
set_option maxRecDepth 20000
mutual
def PQ:Tm->Int->Int
 | .mk _ n _ ks,m=>if m<=0\/40 < n.length then -1 else Rh ks (m - 1)
def Rh:List Tm->Int->Int
 | [],m=>m
 | t:: ts,m=>if PQ t m < 0 then -1 else Rh ts (PQ t m)
end
mutual
theorem EC: ∀(t:Tm) (m:Int),PQ t m= -1\/0<=PQ t m/\PQ t m+t.nodes<=m/\t.mass+1<=42*t.nodes
 | .mk k n s ks,m=>by
  simp only[PQ,Tm.nodes,Tm.mass];split
  ·exact .inl rfl
  ·rename_i h;rcases EB ks (m - 1) (by omega)with h1 | h1
   ·exact .inl h1
   ·right;omega
theorem EB: ∀(ts:List Tm) (m:Int),0<=m->Rh ts m= -1\/0<=Rh ts m/\Rh ts m+Qp ts<=m/\Qw ts+ts.length<=42*Qp ts
 | [],m,h=>by simp[Rh,Qp,Qw];omega
 | t:: ts,m,h=>by
  simp only[Rh,Qp,Qw,Zu];split
  ·exact .inl rfl
  ·rename_i h0;rcases EC t m with h1 | h1
   ·omega
   ·rcases EB ts (PQ t m) (by omega)with h2 | h2
    ·exact .inl h2
    ·right;omega
end
def Qk5 (t d l) (w:l < 1000000) (o: ∀x∈t.kids,∀(m:Int) d,m < 1000000->call tb 102 [.agg (Qd x),.int .i64 m] d=some (.int .i64 (PQ x m),d)):
  ∀a b (m:Int) e,t.kids=b ++ a->0<=m->m+b.length<=l->e 2= .bx (Qd t)->e 5= .int .i64 b.length->e 1= .int .i64 m->
  R tb (.loop f102l0) e d (Qh 0 (Qs tb f102r0 (QA f102 d)))=some (.int .i64 (Rh a m),d):=by
 intro a;induction a with | nil=>intro b m e c r q h j i;rw[Qb f102l0.eq_1];simp at c;simp[i,h,j,c,f102r0,Rh] | cons x a s=>intro b m e c r q h j i;have n:=Qv c;have v:=QD c;have f:=wr1 b.length (by omega);have g:=QF c;have u:=WE x;rw[Qb f102l0.eq_1];rcases EC x m with p | p;simp[i,h,j,n,f,g,o x (by rw[c];simp) m d (by omega),p,Rh]; · (have k: ¬PQ x m < 0:=by omega);simp[i,h,j,n,f,g,o x (by rw[c];simp) m d (by omega),k,Rh];rw[s (b ++ [x]) (PQ x m)] <;> first | omega | simp[h,c];done | simp;omega
def A4: ∀t m a,m < 1000000->call tb 102 [.agg (Qd t),.int .i64 m] a=some (.int .i64 (PQ t m),a):=by
 refine Yp ?_;intro k n s b d m a c;rw[zcc 102 rfl rfl];have g: (40 < (n.length:Int))=(40 < n.length):=by rw[UT];omega
 simp[f102C,V8,g,PQ];split;rfl; · rename_i h;have e:IntKind.i64.wrap (m - 1)=m - 1:=QC (by omega) (by omega);refine Qk5 (.mk k n s b) a m c (fun x f=>d x f) b [] (m - 1) _ ?_ ?_ ?_ ?_ ?_ ?_ <;> first | simp[e];done | simp;omega
def few (l:Qj) (n:Nat) (m:Int):Bool:=decide (l.length<=n) && decide (0<=Rh l m)
def QlK (l o h) (t:l.length < 1000000):
  ∀a b m e,l=b ++ a->0<=m->m < 1000000->e 0= .sl o 4 (Qa l)->e 7= .int .i64 b.length->e 2= .int .i64 m->
  R tb (.loop f101l0) e h (Qh 0 (Qs tb f101r0 (QA f101 h)))=some (.bool (decide (0<=Rh a m)),h):=by
 intro a;induction a with | nil=>intro b m e d p r c i j;rw[Qb f101l0.eq_1];simp at d;simp[c,i,d,f101r0,Rh,p] | cons x a s=>intro b m e d p r c i j;have n:=Qv d;have t:=QD d;have f:=wr1 b.length (by omega);have g:=QF d;rw[Qb f101l0.eq_1];rcases EC x m with q | q;simp[c,i,j,n,f,g,A4 x m h (by omega),q,Rh]; · (have k: ¬PQ x m < 0:=by omega);simp[c,i,j,n,f,g,A4 x m h (by omega),k,Rh];rw[s (b ++ [x]) (PQ x m)] <;> first | omega | simp[c,d];done
def A5 (l o) (n:Nat) (m a) (d:n < 1000000) (c:0<=m) (b:m < 1000000):
  call tb 101 [.sl o 4 (Qa l),.int .i64 n,.int .i64 m] a=some (.bool (few l n m),a):=by
 rw[zcc 101 rfl rfl];have e: ((n:Int) < (l.length:Int))=(n < l.length):=by rw[UT];omega
 simp[f101C,V8,few];split;have: ¬l.length<=n:=by omega
 simp[this];have:l.length<=n:=by omega
 rw[QlK l false a (by omega) l [] m] <;> simp[this,c,b]
end Go.Am
namespace Go.Am
set_option maxRecDepth 20000
def Pg (c:UInt8):Bool:=(97<=c.toNat && c.toNat<=122) || (65<=c.toNat && c.toNat<=90)
def Mu (c:UInt8):Bool:=48<=c.toNat && c.toNat<=57
def RR (c):TU c=(Pg c || Mu c || c.toNat == 95 || c.toNat == 35):=rfl
def S7 (m n:Nat): ((m:Int)<=(n:Int))=(m<=n):=by rw[UT];omega
def Lp (c a):call tb 58 [.int .u8 c.toNat] a=some (.bool (Pg c),a):=by
 rw[zcc 58 rfl rfl];have f: ((97:Int)<=(c.toNat:Int))=(97<=c.toNat):=S7 97 _;have b: ((c.toNat:Int)<=122)=(c.toNat<=122):=S7 _ 122;have d: ((65:Int)<=(c.toNat:Int))=(65<=c.toNat):=S7 65 _;have e: ((c.toNat:Int)<=90)=(c.toNat<=90):=S7 _ 90;simp[f58,f58C,Pg,f,b,d,e]
def Fh (c a):call tb 59 [.int .u8 c.toNat] a=some (.bool (Mu c),a):=by
 rw[zcc 59 rfl rfl];have d: ((48:Int)<=(c.toNat:Int))=(48<=c.toNat):=S7 48 _;have b: ((c.toNat:Int)<=57)=(c.toNat<=57):=S7 _ 57;simp[f59,f59C,Mu,d,b]
def Dw (n:Nat): ((n:Int)=95)=(n=95):=by rw[UT];omega
def Du (n:Nat): ((n:Int)=35)=(n=35):=by rw[UT];omega
def Ad:=@Bool.or_eq_false_iff
def BV (s l) (u:s.length < 4611686018427387904): ∀a b h,s=b ++ a->h 0= .str s->h 3= .int .i64 b.length->
  R tb (.loop f57l0) h l (Qh 0 (Qs tb f57r0 (QA f57 l)))=some (.bool (a.all TU),l):=by
 intro a;induction a with | nil=>intro b h c g i;rw[Qb f57l0.eq_1];simp at c;simp[g,i,c,f57r0] | cons x a t=>intro b h c g i;have m:=Qv c;have v:=QD c;have e:=wr1 b.length (by omega);have f:=QF c;rw[Qb f57l0.eq_1];cases d:TU x;rw[RR]at d;simp only[Ad]at d;obtain⟨⟨⟨p,n⟩,q⟩,o⟩:=d;(have k: ¬x.toNat=95:=by simpa using q);(have j: ¬x.toNat=35:=by simpa using o);simp[g,i,m,e,f,Lp,Fh,p,n,k,j,Dw,Du,RR];simp[g,i,m,e,f,Lp,Fh,Dw,Du,RR,V8];split;rename_i r;simp[RR,r]at d;rw[t (b ++ [x])];simp[RR]at d;simp[d];simp[c];simp[g];simp
def Qf4 {c} (h:Pg c=true):Mu c=false/\(c.toNat == 95)=false/\(c.toNat == 35)=false:=by
 simp only[Pg,Wo,Qu,QM]at h;refine⟨?_,?_,?_⟩;simp only[Mu,Bool.and_eq_false_iff,OL];omega;simp;omega;simp;omega
def Qct (c r):VQ (c:: r)=(decide (r.length < 24) && Pg c && (c:: r).all TU):=by
 have d: (decide (48<=c.toNat) && decide (c.toNat<=57))=Mu c:=rfl;simp only[VQ,Tl,d,bne];cases a:Pg c;rw[RR,a];cases Mu c <;> cases (c.toNat == 95) <;> cases (c.toNat == 35) <;> simp;obtain⟨f,e,b⟩:=Qf4 a;rw[RR,a,f,e,b];simp
def AW (s a) (f:s.length < 4611686018427387904):call tb 57 [.str s] a=some (.bool (VQ s),a):=by
 rw[zcc 57 rfl rfl];rcases s with _ | ⟨c,r⟩;simp[f57C,VQ];have g: (24 < (r.length:Int)+1)=¬(r.length < 24):=by rw[UT];omega
 have e: ((r.length:Int)+1=0)=False:=eq_false (by omega);rw[Qct];by_cases d:r.length < 24 <;> cases b:Pg c <;> simp[f57C,Lp,g,e,d,b,-List.all_cons];rw[BV (c:: r) a f (c:: r) []] <;> (try simp)
def Qfo (s n a):call tb 107 [.str s,.int .i64 n] a=some (.agg (Qd (.mk 2 s n [])),a):=by
 rw[zcc 107 rfl rfl];simp[f107,f107C,QfK]
end Go.Am
namespace Go.Am
set_option maxRecDepth 20000
def TI: ∀a:Yi,Op.bytesLess a a=false
 | []=>rfl
 | c:: r=>by simp[Op.bytesLess,TI r]
def Dy (a):Vs a a=0:=by simp[Vs,TI]
def QmO (a):sgn a a=0:=MN.2 rfl
def QlT (t):hdT t t=0:=by simp[hdT,QmO,Dy,or0]
mutual
theorem Xd: ∀t:Tm,Qo t t=0
 | .mk k n s ks=>by rw[Qo,QlT,Rb];exact Dx ks
theorem Dx: ∀ts:List Tm,WU ts ts=0
 | []=>by simp[WU]
 | t:: ts=>by rw[WU,Xd t,Rb];exact Dx ts
end
def Qe7 (a g l k) (o:Qw a < big) (n:a.length < 4611686018427387904):
  ∀b c e,a=c ++ b->e 0= .sl l 4 (Qa a)->e 1= .sl k 4 (Qa a)->e 5= .int .i64 c.length->
  R tb (.loop f112l0) e g (Qh 0 (Qs tb f112r0 (QA f112 g)))=some (.bool true,g):=by
 intro b;induction b with | nil=>intro c e d f i h;rw[Qb f112l0.eq_1];simp at d;simp[f,h,d,f112r0] | cons x b m=>intro c e d f i h;have n:=QD d;(have j:x.mass < big:=by have:=QR (x:=x) (ks:=a) (by rw[d];simp);omega);rw[Qb f112l0.eq_1];simp[f,i,h,(Qv d),(wr1 c.length (by omega)),(QF d),W2 x x g j j,Xd];rw[m (c ++ [x])] <;> simp[f,i,d]
def PT (a b f e) (d:Qw a < big) (c:a.length < 4611686018427387904):
  call tb 112 [.sl f 4 (Qa a),.sl e 4 (Qa a)] b=some (.bool true,b):=by
 rw[zcc 112 rfl rfl];simp[f112C];rw[Qe7 a b false false d c a []] <;> simp
def Qax {l n m} (b:0<=m) (h:few l n m=true):l.length<=n/\Qw l+l.length<=42*m.toNat/\Qp l<=m.toNat:=by
 simp only[few,Qu,QM]at h;rcases EB l m b with a | a;omega;omega
end Go.Am
namespace Go.Am
set_option maxRecDepth 20000
def QfB (t g) (l:t.mass < big) (m: ∀x∈t.kids,∀g,call tb 48 [.agg (Qd x)] g=some (.agg (Qd x),g)):
  ∀b a e,t.kids=a ++ b->e 1= .bx [.int .i64 t.kind,.str t.name,.int .i64 t.sort,.sl true 4 (Qa a)]->e 2= .bx [.int .i64 0,.str [],.int .i64 0,.sl true 4 []]->
   e 9= .sl false 4 (Qa t.kids)->e 10= .int .i64 t.kids.length->e 11= .int .i64 a.length->
  R tb (.loop f48l0) e g (Qh 0 (Qs tb f48r0 (QA f48 g)))=some (.agg (Qd t),g):=by
 have n:=QL t;unfold big at l;intro b;induction b with | nil=>intro a e f h j i d c;rw[Qb f48l0.eq_1];simp at f;rw[<- f]at h c;simp[h,j,i,d,c,f48r0,SG,Tm.eta] | cons x b o=>intro a e f h j i d c;have p:=QD f;(have k: (a.length+1)*56<=140737488355328:=by omega);rw[Qb f48l0.eq_1];simp[h,i,d,c,(Qv f),(wr1 a.length (by omega)),(QF f),k,m x (by rw[f];simp),ZH,QQ];rw[o (a ++ [x])] <;> simp[j,i,d,f]
def NH: ∀t a,t.mass < big->call tb 48 [.agg (Qd t)] a=some (.agg (Qd t),a):=by
 refine Yp ?_;intro k n s b e a d;rw[zcc 48 rfl rfl];simp[f48C,Qd];refine QfB (.mk k n s b) a d (fun x c a=>e x c a ?_) b [] _ ?_ ?_ ?_ ?_ ?_ ?_ <;> (try simp[Qa]);have:=QR c;have:=QL (.mk k n s b);simp at *;omega
def Qlg (t a) (b:t.mass < big) (o):call tb 47 [.agg (Qd t),.sl o 1 []] a=some (.tup [.agg (Qd t),.int .i64 0],a):=by
 rw[zcc 47 rfl rfl];simp[f47C];rw[Qb f47l0.eq_1];simp[f47r0,NH t a b]
def A3 (n a o b):call tb 49 [.str n,.sl o 4 (Qa a)] b=some (.agg (Qd (.mk 3 n 0 a)),b):=by
 rw[zcc 49 rfl rfl];simp[f49,f49C,SG]
structure Sy where
 n:List UInt8
 l:Int
 m:Int
 k:Int
def UG (s:Sy):QB:=[.str s.n,.int .i64 s.l,.int .i64 s.m,.int .i64 s.k]
def WX:List Sy:=[⟨[112,97,105,114],2,2,1⟩,⟨[101,110,99],2,2,1⟩,⟨[97,101,110,99],2,2,1⟩,⟨[112,107],1,1,1⟩,⟨[115,105,103,110],2,2,1⟩,⟨[104,97,115,104],1,1,1⟩,
 ⟨[120,111,114],2,8,1⟩,⟨[122,101,114,111],0,0,1⟩,⟨[101,120,112],2,2,1⟩,⟨[109,117,108],2,8,1⟩,⟨[105,110,118],1,1,1⟩,⟨[111,110,101],0,0,1⟩,
 ⟨[115,107],1,1,2⟩,⟨[115,104,107],2,2,2⟩,⟨[110,101,119],1,8,2⟩,⟨[102,115,116],1,1,3⟩,⟨[115,110,100],1,1,3⟩,⟨[100,101,99],2,2,3⟩,⟨[97,100,101,99],2,2,3⟩,⟨[111,112,101,110],2,2,3⟩,⟨[114,101,97,100],1,1,3⟩]
def V7 (ys:List Sy):Qr:=ys.map UG
@[simp] def Cu (a):ZD (V7 a)=true:=by
 induction a with | nil=>rfl | cons y a b=>simpa[V7,UG,ZD,Q5,AV.gpfree]using b
@[simp] def QwE (a): (V7 a).length=a.length:=by simp[V7]
def A0 (k l m n a b) (f:a.length < 1000):
  call tb 45 [.int .i64 k,.str n,.int .i64 l,.int .i64 m,.gp b.length 0] (b ++ [[.sl true 4 (V7 a)]])=some (.tup [],b ++ [[.sl true 4 (V7 (a ++ [⟨n,l,m,k⟩]))]]):=by
 rw[zcc 45 rfl rfl];have e: (a.length+1)*40<=140737488355328:=by omega
 have c:V7 (a ++ [⟨n,l,m,k⟩])=V7 a ++ [[.str n,.int .i64 l,.int .i64 m,.int .i64 k]]:=by simp[V7,UG]
 have d:ZD (V7 a ++ [[.str n,.int .i64 l,.int .i64 m,.int .i64 k]])=true:=by rw[<- c];exact Cu _
 simp[f45,f45C,e,c,d,Z2,Q5]
def Qik (k l m n a):
  call tb 45 [.int .i64 k,.str n,.int .i64 l,.int .i64 m,.gp a.length 0] (a ++ [[.sl true 4 []]])=some (.tup [],a ++ [[.sl true 4 (V7 [⟨n,l,m,k⟩])]]):=A0 k l m n [] a (by simp)
def AZ (a):call tb 44 [] a=some (.sl false 4 (V7 WX),a):=by
 rw[zcc 44 rfl rfl];simp only[f44,f44C];simp[Qik,A0,WX]
def YU (n:Yi):List Sy->Option Sy
 | []=>none
 | s:: ss=>if s.n=n then some s else YU n ss
def Il {l b a s} (h:l=b ++ s:: a): (V7 l)[b.length]? =some (UG s):=by
 subst h;simp[V7]
def QcM (n l o) (u:l.length < 1000):
  ∀a b c,l=b ++ a->c 0= .str n->c 2= .bx [.str [],.int .i64 0,.int .i64 0,.int .i64 0]->
   c 5= .sl false 4 (V7 l)->c 6= .int .i64 l.length->c 7= .int .i64 b.length->
  R tb (.loop f43l0) c o (Qh 0 (Qs tb f43r0 (QA f43 o)))=
   some (.agg (match YU n a with | some s=>UG s | none=>[.str [],.int .i64 0,.int .i64 0,.int .i64 0]),o):=by
 intro a;induction a with | nil=>intro b c d k j e f i;rw[Qb f43l0.eq_1];simp at d;rw[<- d]at i;simp[j,e,f,i,f43r0,YU] | cons x a r=>intro b c d k j e f i;have q:=Il d;have t:=QD d;have g:=wr1 b.length (by omega);have h:=QF d;rw[Qb f43l0.eq_1];by_cases p:x.n=n;simp[k,j,e,f,i,q,g,h,UG,p,YU];(have m: (x.n == n)=false:=by simp[p]);simp[k,j,e,f,i,q,g,h,UG,p,m,YU];rw[r (b ++ [x])] <;> simp[k,j,e,f,d,UG]
def VA (n a):call tb 43 [.str n] a=some (.agg (match YU n WX with | some s=>UG s | none=>[.str [],.int .i64 0,.int .i64 0,.int .i64 0]),a):=by
 rw[zcc 43 rfl rfl];simp[f43C,AZ];refine QcM n WX a (by simp[WX]) WX [] _ rfl ?_ ?_ ?_ ?_ ?_ <;> simp
end Go.Am
namespace Go.Am
set_option maxRecDepth 20000
def RE (k:Tm):Bool:=k.kind == 3 || k.sort != 1
mutual
def Wy:Tm->Int
 | .mk k n _ ks=>if k≠3 then 0 else match YU n WX with
  | none=>10
  | some y=>if(ks.length:Int) < y.l\/y.m < ks.length then 6 else if(n=[115,107]\/n=[115,104,107])/\ks.any RE then 10
   else if n=[110,101,119]/\ks.head?.map Tm.kind≠some 2 then 10 else PU ks
def PU:List Tm->Int
 | []=>0
 | t:: ts=>if Wy t≠0 then Wy t else PU ts
end
def Qlk (t:Tm) (e) (n:t.mass < big) (k: ∀x∈t.kids,∀e,call tb 42 [.agg (Qd x)] e=some (.int .i64 (Wy x),e)):
  ∀a b d,t.kids=b ++ a->d 62= .sl false 4 (Qa t.kids)->d 63= .int .i64 t.kids.length->d 64= .int .i64 b.length->
  R tb (.loop f42l1) d e (Qh 3 (Qs tb f42r0 (QA f42 e)))=some (.int .i64 (PU a),e):=by
 have o:=QL t;unfold big at n;intro a;induction a with | nil=>intro b d c j g f;rw[Qb f42l1.eq_1];simp at c;rw[<- c]at f;simp[j,g,f,f42r0,PU] | cons x a p=>intro b d c j g f;have m:=Qv c;have q:=QD c;have h:=wr1 b.length (by omega);have i:=QF c;rw[Qb f42l1.eq_1];by_cases l:Wy x=0;simp[j,g,f,m,h,i,k x (by rw[c];simp),l,PU];rw[p (b ++ [x])] <;> simp[j,g,c];simp[j,g,f,m,h,i,k x (by rw[c];simp),l,PU]
def A9 (t a) (c:t.mass < big) (d: ∀x∈t.kids,∀a,call tb 42 [.agg (Qd x)] a=some (.int .i64 (Wy x),a)) (b) (e:b 1= .bx (Qd t)):
  R tb f42r1 b a (QA f42 a)=some (.int .i64 (PU t.kids),a):=by
 simp[f42r1,e,ZN];refine Qlk t a c d t.kids [] _ rfl ?_ ?_ ?_ <;> simp
def Qlj (t i) (r:t.mass < big) (u: ∀x∈t.kids,∀i,call tb 42 [.agg (Qd x)] i=some (.int .i64 (Wy x),i)):
  ∀(a b:Qj) d,t.kids=b ++ a->d 1= .bx (Qd t)->d 38= .sl false 4 (Qa t.kids)->d 39= .int .i64 t.kids.length->d 40= .int .i64 b.length->
  R tb (.loop f42l0) d i (Qh 1 (Qh 0 (Qs tb f42r1 (QA f42 i))))=some (.int .i64 (if a.any RE then 10 else PU t.kids),i):=by
 have v:=QL t;unfold big at r;intro a;induction a with | nil=>intro b d h o l k j;rw[Qb f42l0.eq_1];simp at h;rw[<- h]at j;simp[l,k,j];rw[A9 t i r u] <;> simp[o] | cons x a s=>intro b d h o l k j;have n:=Qv h;have w:=QD h;have g:=wr1 b.length (by omega);have f:=QF h;rw[Qb f42l0.eq_1];by_cases c:x.kind=3;simp[l,k,j,n,g,f,ZN,c,RE];by_cases m:x.sort=1;(have p:RE x=false:=by simp[RE,c,m]);(have e: (x.kind == 3)=false:=by simp[c]);simp[l,k,j,n,g,f,ZN x,m,p,e];rw[s (b ++ [x])] <;> simp[o,l,k,h];(have p:RE x=true:=by simp[RE,m]);(have e: (x.kind == 3)=false:=by simp[c]);(have q: (x.sort != 1)=true:=by simp[m]);simp[l,k,j,n,g,f,ZN x,p,e,q]
def Kw {n y}: ∀{l},YU n l=some y->y∈l/\y.n=n
 | [],h=>by simp[YU]at h
 | s:: a,h=>by
  simp only[YU]at h;split at h;rename_i e;cases h;exact⟨by simp,e⟩;have:=Kw h;exact⟨Rw _ this.1,this.2⟩
def Qko {y} (h:y∈WX):y.k≠0/\(y.n=[110,101,119]->y.l=1):=by
 have:WX.all (fun y=>y.k≠0/\(y.n=[110,101,119]->y.l=1))=true:=by decide
 have:=Wc.1 this y h;simpa only[QM]using this
def A6: ∀t b,t.mass < big->call tb 42 [.agg (Qd t)] b=some (.int .i64 (Wy t),b):=by
 refine Yp ?_;intro k n s d D b C;have J:=QL (.mk k n s d);have l: ∀x∈(Tm.mk k n s d).kids,∀b,call tb 42 [.agg (Qd x)] b=some (.int .i64 (Wy x),b):=fun x m b=>D x m b (by have:=QR m;simp at *;omega);have v:=fun z h=>A9 (.mk k n s d) b C l z h;have r:=fun z G j p i=>Qlj (.mk k n s d) b C l d [] z rfl G j p i;simp only[Qd,ZJ,Xc]at v r;rw[zcc 42 rfl rfl];by_cases B:k=3;subst B;rcases c:YU n WX with _ | y;simp[f42C,Qd,VA,c,Wy];obtain⟨u,q⟩:=Kw c;obtain⟨a,w⟩:=Qko u;by_cases e: (d.length:Int) < y.l;simp[f42C,Qd,VA,c,a,e,UG,Wy];by_cases f:y.m < (d.length:Int);simp[f42C,Qd,VA,c,a,e,f,UG,Wy];by_cases j:n=[115,107];subst j;simp[f42C,Qd,VA,c,a,e,f,UG,Wy];rw[r] <;> simp;by_cases p:n=[115,104,107];subst p;simp[f42C,Qd,VA,c,a,e,f,UG,Wy];rw[r] <;> simp;have E: (n == [115,107])=false:=by simp[j]
 have I: (n == [115,104,107])=false:=by simp[p]
 by_cases i:n=[110,101,119];subst i;have K:=w q;rcases d with _ | ⟨x,A⟩;simp at e;omega;have o: ¬((A.length:Int)+1 < y.l):=by simpa using e
 have g: ¬(y.m < (A.length:Int)+1):=by simpa using f
 by_cases m:x.kind=2;simp[f42C,Qd,Qa,ZN x,VA,c,a,o,g,UG,Wy,m]at *;refine(v _ ?_).trans ?_ <;> simp;simp[f42C,Qd,Qa,ZN x,VA,c,a,o,g,UG,Wy,m];have H: (n == [110,101,119])=false:=by simp[i]
 simp[f42C,Qd,VA,c,a,e,f,UG,Wy,j,p,i,E,I,H];rw[v] <;> simp;simp[f42C,Qd,B,Wy]
def thV (t:Tm):Int:=if QZ t≠0 then QZ t else Wy t
def Mt (t a) (b:t.mass < big):call tb 41 [.agg (Qd t)] a=some (.int .i64 (thV t),a):=by
 rw[zcc 41 rfl rfl];have c:=TJ t a b;have d:=A6 t a b;rw[ZN]at *;by_cases h:QZ t=0;simp[f41C,c,d,h,thV];simp[f41C,c,h,thV]
end Go.Am
