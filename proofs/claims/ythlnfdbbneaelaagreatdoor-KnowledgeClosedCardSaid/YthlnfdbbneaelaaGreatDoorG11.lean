/-
  Am21, Am22, Am23, Ge1, Ge2, Ge3, Ge4, Ge5, Ge6, Ge10, Ge11, Ge12, Ge26, Ge27, Ge28, Ge15.
-/
import Derived.Test.YthlnfdbbneaelaaGreatDoorG07
import Derived.Test.YthlnfdbbneaelaaGreatDoorG10
set_option linter.all false
open Go.Am.F
namespace Go.Am
abbrev Out:=Option (AV×List (List AV))
abbrev Kn:=Ex->St->Out
section
variable {T:Nat->Option AFn}
noncomputable def R (T:Sc) (c:AC) (ρ:Yd) (bs:Qp) (k:Kn):Out:=match run T c ⟨ρ,bs⟩with
 | some (e,s)=>k e s
 | none=>none
noncomputable def O (T:Sc) (os:T1) (ρ:Yd) (bs:Qp) (k:Kn):Out:=match YP (call T) os ⟨ρ,bs⟩with
 | some s=>k .normal s
 | none=>none
noncomputable def E (T:Sc) (r:Option (AV×St)) (d:Rc) (os:T1) (k:Kn):Out:=match r with
 | some p=>O T os (Xl p.2.env d p.1) p.2.bs k
 | none=>none
def Wo (c b:Bool) (x y:Out):Out:=if c=b then x else y
noncomputable def Qu (T:Sc) (b:AC) (k:Kn):Kn:=fun e s=>match e with
 | .normal=>match run T b s with
  | some (e,s)=>k e s
  | none=>none
 | e=>k e s
def Qi (id:Nat) (k:Kn):Kn:=fun e s=>match e with
 | .exit i=>k (if i=id then .normal else .exit i) s
 | e=>k e s
def Qz (fn:ZQ) (n:Qp):Kn:=fun e s=>match e with
 | .normal=>We fn n s
 | .ret=>We fn n s
 | .exit _=>none
def Ib (x y):Wo true true x y=x:=rfl
def Dg (x y):Wo false false x y=x:=rfl
def Dh (x y):Wo true false x y=y:=rfl
def Ia (x y):Wo false true x y=y:=rfl
def Qb5 (c b x):Wo c b x x=x:=by unfold Wo;split <;> rfl
def QfE (c b x y):Wo (!c) b x y=Wo c (!b) x y:=by cases c <;> cases b <;> rfl
def Tx (c b x y):Wo c b x y=if c=b then x else y:=rfl
def Qtj (ρ bs k):R T .skip ρ bs k=k .normal ⟨ρ,bs⟩:=by simp only[R,Qbh]
def Qvy (ρ bs k):R T .ret ρ bs k=k .ret ⟨ρ,bs⟩:=by simp only[R,Qea]
def Qth (a ρ bs k):R T (.exit a) ρ bs k=k (.exit a) ⟨ρ,bs⟩:=by simp only[R,Qbe]
def Qvx (d a ρ bs k):R T (.reg d a) ρ bs k=O T a ρ bs k:=by
 simp only[R,O,Qd9];cases YP (call T) a ⟨ρ,bs⟩ <;> rfl
def Qvz (a b ρ bs k):R T (.seq a b) ρ bs k=R T a ρ bs (Qu T b k):=by
 simp only[R,Qeb];rcases run T a ⟨ρ,bs⟩with _ | x;rfl;obtain⟨e,s⟩:=x;cases e <;> rfl
def QnR (a c ρ bs k):R T (.block a c) ρ bs k=R T c ρ bs (Qi a k):=by
 simp only[R,Dw];rcases run T c ⟨ρ,bs⟩with _ | x;rfl;obtain⟨e,s⟩:=x;cases e <;> rfl
def Qti (c ρ bs k):R T (.loop c) ρ bs k=R T c ρ bs (Qu T (.loop c) k):=by
 simp only[R];rw[Qbg];rcases run T c ⟨ρ,bs⟩with _ | x;rfl;obtain⟨e,s⟩:=x;cases e <;> rfl
def Qcn (b k ρ bs):Qu T b k .normal ⟨ρ,bs⟩=R T b ρ bs k:=rfl
def QmM (b k s):Qu T b k .ret s=k .ret s:=rfl
def Qj2 (b k s a):Qu T b k (.exit a) s=k (.exit a) s:=rfl
def DL (a k s):Qi a k .normal s=k .normal s:=rfl
def Qe5 (a k s):Qi a k .ret s=k .ret s:=rfl
def QbL (a k s):Qi a k (.exit a) s=k .normal s:=by simp[Qi]
def F1 (a i) (h: (i == a)=false) (k s):Qi a k (.exit i) s=k (.exit i) s:=by
 have:i≠a:=by simpa using h
 simp[Qi,this]
def Qb0 (a k s):Qz a k .normal s=We a k s:=rfl
def QlG (a k s):Qz a k .ret s=We a k s:=rfl
noncomputable def Qfl (T:Sc) (v:AV) (n:Nat) (a b:AC) (ρ:Yd) (bs:Qp) (k:Kn):Out:=match v with
 | .bool c=>Wo c true (R T a (upd ρ n (.bool true)) bs k) (R T b (upd ρ n (.bool false)) bs k)
 | _=>none
def Th {ρ n v} (h:ρ n=v):upd ρ n v=ρ:=by
 funext j;unfold upd;split;rename_i a;rw[a,h];rfl
def Qtg (n a b ρ bs k):R T (.cond (.t n) a b) ρ bs k=Qfl T (ρ n) n a b ρ bs k:=by
 simp only[R,Qbd,val,Qfl];cases h:ρ n <;> try rfl
 rename_i c;cases c;simp only[AV.strip,Ia,Th h];simp only[AV.strip,Ib,Th h]
def Qfm (c n a b ρ bs k):
  Qfl T (.bool c) n a b ρ bs k=Wo c true (R T a (upd ρ n (.bool true)) bs k) (R T b (upd ρ n (.bool false)) bs k):=rfl
def Qvw (ρ bs k):O T [] ρ bs k=k .normal ⟨ρ,bs⟩:=rfl
def Qte (d a b ρ bs k):
  O T (⟨d,a,none⟩:: b) ρ bs k=E T (Qk (call T) a ⟨ρ,bs⟩) d b k:=by
 simp only[O,E,YP,YL];cases Qk (call T) a ⟨ρ,bs⟩ <;> rfl
noncomputable def Ff (T:Sc) (v:AV) (t:Nat) (b:Bool) (d:Rc) (op:AOp) (os:T1) (ρ:Yd) (bs:Qp) (k:Kn):Out:=match v with
 | .bool c=>Wo c b (E T (Qk (call T) op ⟨upd ρ t (.bool b),bs⟩) d os k) (O T os (Xl (upd ρ t (.bool (!b))) d (.tup [])) bs k)
 | .tup []=>O T os (Xl ρ d (.tup [])) bs k
 | _=>none
def Tk (d f t b g ρ bs k):
  O T (⟨d,f,some (t,b)⟩:: g) ρ bs k=Ff T (ρ t) t b d f g ρ bs k:=by
 simp only[O,YP,YL,Ff];cases h:ρ t <;> try rfl
 rename_i c;by_cases a:c=b;subst a;simp only[Wo,QT,Th h,E];cases Qk (call T) f ⟨ρ,bs⟩ <;> rfl;have e:c= !b:=by cases c <;> cases b <;> simp_all
 subst e;simp only[Wo,a,ZT,Th h];rfl;rename_i i;cases i <;> rfl
def TU (c t b d e a ρ bs k):
  Ff T (.bool c) t b d e a ρ bs k=Wo c b (E T (Qk (call T) e ⟨upd ρ t (.bool b),bs⟩) d a k) (O T a (Xl (upd ρ t (.bool (!b))) d (.tup [])) bs k):=rfl
def Fg (t b d c a ρ bs k):
  Ff T (.tup []) t b d c a ρ bs k=O T a (Xl ρ d (.tup [])) bs k:=rfl
def Qrx (v ρ bs d a k):E T (some (v,⟨ρ,bs⟩)) (some d) a k=O T a (upd ρ d v) bs k:=rfl
def QnL (v ρ bs a k):E T (some (v,⟨ρ,bs⟩)) none a k=O T a ρ bs k:=rfl
def Qrw (d a k):E T none d a k=none:=rfl
def Qj4 (ρ d v):Xl ρ (some d) v=upd ρ d v:=rfl
def Qj3 (ρ v):Xl ρ none v=ρ:=rfl
def MM {f b} (h:T f=some (.code b)) (a bs) (c:a.length=b.nparams):
  call T f a bs=R T b.body (Wm a) bs (Qz b bs):=by
 rw[F7,h];simp only[c,QT,R];rcases run T b.body ⟨Wm a,bs⟩with _ | x;rfl;obtain⟨e,s⟩:=x;cases e <;> rfl
def Xv {f g} (h:T f=some (.orc g)) (a bs):call T f a bs=g a bs:=by
 rw[F7,h]
def QkP (a b):Wm (a:: b) 0=a.strip:=rfl
def QbJ (a b i):Wm (a:: b) (i+1)=Wm b i:=rfl
def Su (ρ i v):upd ρ i v i=v:=by simp[upd]
variable {K:Vd} (ρ:Nat->AV) (bs:List (List AV))
def Qwx (n):val ρ (.t n)=(ρ n).strip:=rfl
def Qww (v):val ρ (.c v)=v:=rfl
end
end Go.Am
namespace Go.Am
section
variable {T:Nat->Option AFn}
def Mr (b:Bool):AV->Bool
 | .bool c=>c == !b
 | .tup []=>true
 | _=>false
noncomputable def O2 (T:Sc) (c:Bool) (_t:Nat) (b:Bool) (os:T1) (ρ1 ρ2:Yd) (bs1 bs2:Qp) (k:Kn):Out:=
 if c=b then O T os ρ1 bs1 k else O T os ρ2 bs2 k
noncomputable def E2 (T:Sc) (c:Bool) (_t:Nat) (b:Bool) (r:Option (AV×St)) (d:Rc) (os:T1) (ρ2:Yd) (bs2:Qp) (k:Kn):Out:=
 if c=b then E T r d os k else O T os (Xl ρ2 d (.tup [])) bs2 k
def Xk (c b:Bool) (x y:AV):AV:=if c=b then x else y
def HR (c b:Bool) (x y:Qp):Qp:=if c=b then x else y
def mrg (c b:Bool) (ρ1 ρ2:Yd):Yd:=fun j=>Xk c b (ρ1 j) (ρ2 j)
def Qqj (c b) (d a) (j):mrg c b d a j=Xk c b (d j) (a j):=rfl
def Qcx (c) (t) (b) (g) (a d) (e f) (k):
  O2 T c t b g a d e f k=O T g (mrg c b a d) (HR c b e f) k:=by
 unfold O2;split;rename_i h;have:mrg c b a d=a:=by funext j;simp[mrg,Xk,h]
 rw[this,HR,Qe h];rename_i h;have:mrg c b a d=d:=by funext j;simp[mrg,Xk,h]
 rw[this,HR,Qb h]
def Qtd (c) (t) (b) (f a) (d e) (k):
  O2 T c t b [] f a d e k=O T [] (mrg c b f a) (HR c b d e) k:=Qcx c t b [] f a d e k
def QnN (c) (t) (b) (d) (h) (i) (f a) (e g) (k):
  O2 T c t b (⟨d,h,none⟩:: i) f a e g k=O T (⟨d,h,none⟩:: i) (mrg c b f a) (HR c b e g) k:=Qcx c t b _ f a e g k
def Qky (c t b d j h i l g a f e k) (_h: ((h == t) && (i == b))=false):
  O2 T c t b (⟨d,j,some (h,i)⟩:: l) g a f e k=Wo c b (O T (⟨d,j,some (h,i)⟩:: l) g f k) (O T (⟨d,j,some (h,i)⟩:: l) a e k):=by
 unfold O2 Wo;rfl
def QnO (c t b d m j a e f h k) (l:a t= .bool b) (g:Mr b (e t)=true):
  O2 T c t b (⟨d,m,some (t,b)⟩:: j) a e f h k=E2 T c t b (Qk (call T) m ⟨a,f⟩) d j e h k:=by
 unfold O2 E2;split;rw[Tk,l,TU,Tx,Qe rfl,Th l];rw[Tk];unfold Mr at g;split at g;rename_i c i;rw[i,TU];simp only[UG]at g;subst g;rw[Tx,Qb (by cases b <;> simp),Th i];rename_i i;rw[i,Fg];cases g
def QnK (c t b v g e d h a f k):
  E2 T c t b (some (v,⟨g,e⟩)) d h a f k=O2 T c t b h (Xl g d v) (Xl a d (.tup [])) e f k:=rfl
noncomputable def G (T:Sc) (v:AV) (d:Rc) (op:AOp) (t:Nat) (b:Bool) (os:T1) (ρ:Yd) (bs:Qp) (k:Kn):Out:=match v with
 | .bool c=>O2 T c t b (⟨d,op,some (t,b)⟩:: os) (upd ρ t (.bool b)) (upd ρ t (.bool (!b))) bs bs k
 | .tup []=>O T os (Xl (upd ρ t (.tup [])) d (.tup [])) bs k
 | _=>none
def Lq (c d g t b f e a k):
  G T (.bool c) d g t b f e a k=O2 T c t b (⟨d,g,some (t,b)⟩:: f) (upd e t (.bool b)) (upd e t (.bool (!b))) a a k:=rfl
def Qnc (d f t b c a e k):
  G T (.tup []) d f t b c a e k=O T c (Xl (upd a t (.tup [])) d (.tup [])) e k:=rfl
def QnP (d j t b g f l k):
  O T (⟨d,j,some (t,b)⟩:: g) f l k=G T (f t) d j t b g f l k:=by
 cases h:f t <;> try rw[Tk,h];rfl
 rename_i c;rw[Lq];unfold O2;by_cases e:c=b;subst e;simp[Th h];have a:c= !b:=by cases c <;> cases b <;> simp_all
 subst a;rw[Th h,Qb e];rename_i i;rcases i with _ | ⟨v,i⟩;rw[Qnc,Tk,h,Fg,Th h];rw[Tk,h];rfl
def Qry (d c t b a e k):
  G T (.bool true) d c t true b a e k=E T (Qk (call T) c ⟨upd a t (.bool true),e⟩) d b k:=by
 rw[Lq];unfold O2;rw[Qe rfl,Tk,Su,TU,Ib,Th (Su _ _ _)]
def QnM (d c t b a e k):
  G T (.bool false) d c t false b a e k=E T (Qk (call T) c ⟨upd a t (.bool false),e⟩) d b k:=by
 rw[Lq];unfold O2;rw[Qe rfl,Tk,Su,TU,Dg,Th (Su _ _ _)]
def BO:=@Bool.not_false
def QwH (d e t b a c k):
  G T (.bool true) d e t false b a c k=O T b (Xl (upd a t (.bool true)) d (.tup [])) c k:=by
 rw[Lq];unfold O2;rw[Qb (by simp),Tk,Su];simp only[TU,Dh,BO];rw[Th (Su _ _ _)]
def GK:=@Bool.not_true
def QwG (d e t b a c k):
  G T (.bool false) d e t true b a c k=O T b (Xl (upd a t (.bool false)) d (.tup [])) c k:=by
 rw[Lq];unfold O2;rw[Qb (by simp),Tk,Su];simp only[TU,Ia,GK];rw[Th (Su _ _ _)]
def QjZ (c b x):Xk c b x x=x:=by unfold Xk;split <;> rfl
def QjW (c b x):HR c b x x=x:=by unfold HR;split <;> rfl
def QuV (c b x y z):Xk c b (Xk c b x y) z=Xk c b x z:=by unfold Xk;split <;> simp_all
def QuW (c b x y z):Xk c b x (Xk c b y z)=Xk c b x z:=by unfold Xk;split <;> simp_all
def Qq1 (c x y z):Xk c true (Xk c false x y) z=Xk c true y z:=by cases c <;> rfl
def Qq2 (c x y z):Xk c true x (Xk c false y z)=Xk c true x y:=by cases c <;> rfl
def QqY (c x y z):Xk c false (Xk c true x y) z=Xk c false y z:=by cases c <;> rfl
def QqZ (c x y z):Xk c false x (Xk c true y z)=Xk c false x y:=by cases c <;> rfl
def Qj1 (c x y):Xk c false x y=Xk c true y x:=by cases c <;> rfl
def QmK (x y):Xk true true x y=x:=rfl
def QjY (x y):Xk false true x y=y:=rfl
def QjX (c x y):Xk c true (.bool x) (.bool y)= .bool (bif c then x else y):=by cases c <;> rfl
def QmJ (c k x y):Xk c true (.int k x) (.int k y)= .int k (bif c then x else y):=by cases c <;> rfl
def Qgp (c b x y): (Xk c b x y).strip=Xk c b x.strip y.strip:=by unfold Xk;split <;> rfl
def Qq0 (c b x y): (Xk c b x y).ok=if c=b then x.ok else y.ok:=by unfold Xk;split <;> rfl
def QmL (c b x y): (Xk c b x y).one=if c=b then x.one else y.one:=by unfold Xk;split <;> rfl
def Qj0 (c b d x y):Mr d (Xk c b x y)=if c=b then Mr d x else Mr d y:=by unfold Xk;split <;> rfl
def Qca (c b):Mr b (.bool c)=(c == !b):=rfl
def QfJ (b):Mr b (.tup [])=true:=rfl
def Qf0 (v x y:AV) (s:St):Option (AV×St):=match v with
 | .bool c=>let v:=Xk c true x y;if v.ok then some (v,s)else none
 | _=>none
def QtM {K} (c a b) (d) (e):Qk K (.pick c a b) ⟨d,e⟩=Qf0 (val d c) (val d a) (val d b) ⟨d,e⟩:=by
 simp only[Qk,Qf0];cases val d c <;> try rfl
 rename_i x;cases x <;> rfl
def Qf1 (c x y s):Qf0 (.bool c) x y s=if(Xk c true x y).ok then some (Xk c true x y,s)else none:=rfl
end
end Go.Am
namespace Go.Am
def Qrp (a i v j):upd a i v j=if j=i then v else a j:=rfl
def D2:AV.strip (.undef)= .undef:=rfl
def Qgg:AV.ok (.undef)=false:=rfl
def Qcg:AV.one (.undef)=false:=rfl
def Qcf:AV.gpfree (.undef)=true:=rfl
def Qcj (k n):AV.strip (.int k n)= .int k n:=rfl
def Qmy (k n):AV.ok (.int k n)=true:=rfl
def QjS (k n):AV.one (.int k n)=true:=rfl
def QjJ (k n):AV.gpfree (.int k n)=true:=rfl
def Qbj (b):AV.strip (.bool b)= .bool b:=rfl
def QjO (b):AV.ok (.bool b)=true:=rfl
def Qgi (b):AV.one (.bool b)=true:=rfl
def Qge (b):AV.gpfree (.bool b)=true:=rfl
def Qck:AV.strip (.nlp)= .nlp:=rfl
def Qmz:AV.ok (.nlp)=true:=rfl
def QjT:AV.one (.nlp)=true:=rfl
def QjK:AV.gpfree (.nlp)=true:=rfl
def Qbi:AV.strip (.anyb)= .anyb:=rfl
def QjN:AV.ok (.anyb)=true:=rfl
def Qgh:AV.one (.anyb)=true:=rfl
def Qgd:AV.gpfree (.anyb)=true:=rfl
def Qcl (s):AV.strip (.str s)= .str s:=rfl
def QmA (s):AV.ok (.str s)=true:=rfl
def QjU (s):AV.one (.str s)=true:=rfl
def QjL (s):AV.gpfree (.str s)=true:=rfl
def Qch (a):AV.strip (.agg a)= .agg a:=rfl
def Qmw (a):AV.ok (.agg a)=true:=rfl
def QjQ (a):AV.one (.agg a)=false:=rfl
def QjH (a):AV.gpfree (.agg a)=Q3 a:=rfl
def Qgo (o z a):AV.strip (.sl o z a)= .sl false z a:=rfl
def QqW (o z a):AV.ok (.sl o z a)=true:=rfl
def QmG (o z a):AV.one (.sl o z a)=true:=rfl
def Qmv (o z a):AV.gpfree (.sl o z a)=ZL a:=rfl
def Qgk (a):AV.strip (.bx a)= .bx a:=rfl
def QqS (a):AV.ok (.bx a)=false:=rfl
def QmC (a):AV.one (.bx a)=false:=rfl
def Qms (a):AV.gpfree (.bx a)=Q3 a:=rfl
def Qgm (i o):AV.strip (.gp i o)= .gp i o:=rfl
def QqU (i o):AV.ok (.gp i o)=true:=rfl
def QmE (i o):AV.one (.gp i o)=true:=rfl
def Qmu (i o):AV.gpfree (.gp i o)=false:=rfl
def Qgn (i o z n):AV.strip (.gs i o z n)= .gs i o z n:=rfl
def QqV (i o z n):AV.ok (.gs i o z n)=true:=rfl
def QmF (i o z n):AV.one (.gs i o z n)=true:=rfl
def Qbk (a):AV.strip (.rptr a)= .rptr a:=rfl
def QjP (a):AV.ok (.rptr a)=true:=rfl
def Qgj (a):AV.one (.rptr a)=true:=rfl
def Qgf (a):AV.gpfree (.rptr a)=Q3 a:=rfl
def Qgl (f a):AV.strip (.fn f a)= .fn f a:=rfl
def QqT (f a):AV.ok (.fn f a)=true:=rfl
def QmD (f a):AV.one (.fn f a)=true:=rfl
def Qmt (f a):AV.gpfree (.fn f a)=Q3 a:=rfl
def Qcm (a):AV.strip (.tup a)= .tup a:=rfl
def QmB (a):AV.ok (.tup a)=true:=rfl
def QjV (a):AV.one (.tup a)=false:=rfl
def QjM (a):AV.gpfree (.tup a)=Q3 a:=rfl
def Qci (b):AV.strip (.err b)= .err b:=rfl
def Qmx (b):AV.ok (.err b)=true:=rfl
def QjR (b):AV.one (.err b)=true:=rfl
def QjI (b):AV.gpfree (.err b)=true:=rfl
def QlZ {d:Type} (p) [Decidable p] (a b c:d): (if p then(if p then a else b)else c)=if p then a else c:=by split <;> simp_all
def QlY {d:Type} (p) [Decidable p] (a b c:d): (if p then a else(if p then b else c))=if p then a else c:=by split <;> simp_all
attribute [simp] Qck Qmz QjT QjK D2 Qgg Qcg Qcf Qcj Qmy QjS QjJ Qbj QjO Qgi Qge Qbi QjN Qgh Qgd Qcl QmA QjU QjL Qch Qmw QjQ QjH Qgo QqW QmG Qmv Qgk QqS QmC Qms Qgm QqU QmE Qmu Qgn QqV QmF Qbk QjP Qgj Qgf Qgl QqT QmD Qmt Qcm QmB QjV QjM Qci Qmx QjR QjI QlZ QlY
attribute [simp] MV Qtj Qvy Qth Qvx Qvz QnR Qtg Qvw Qte QnP Qrx QnL Qrw Qj4 Qj3 Qfm Qcn QmM Qj2 DL Qe5 QbL Qb0 QlG Ib Dh Dg Ia QfE Qb5 Qk Qwx Qww QkP QbJ Qn aun We WG Te Q3 ZL VD XF cellsOf put Qrp Qtd QnN Qky QnO QnK Qqj Lq Qnc Qca QfJ QjZ QjW QuV QuW Qq1 Qq2 QqY QqZ Qj1 QmK QjY QjX QmJ Qgp Qq0 QmL Qj0 Qf1
attribute [simp ↓] QtM
attribute [simp 2000] Qry QnM QwH QwG
def Qb6 (c x y):Wo c false x y=Wo c true y x:=by cases c <;> rfl
def Qb4 (c x y s):Wo c true (some (.bool x,s)) (some (.bool y,s))=some (.bool (bif c then x else y),s):=by cases c <;> rfl
def A4 (c k x y s):Wo c true (some (.int k x,s)) (some (.int k y,s))=some (.int k (bif c then x else y),s):=by cases c <;> rfl
def Qc {T c d} (h:c=d) (a b k):R T (.loop c) a b k=R T d a b (Qu T (.loop c) k):=by
 subst h;exact Qti c a b k
attribute [simp] toI
def Qo {c:Type} (x) (d:List c): (x:: d)[0]? =some x:=rfl
attribute [simp] Qb6 Qb4 A4 UM Wl Yh Bool.cond_decide
def QC {n} (a: -9223372036854775808<=n) (d:n < 9223372036854775808):IntKind.i64.wrap n=n:=by
 simp only[IntKind.wrap_i64];omega
def wr1 (n:Nat) (h:n+1 < 9223372036854775808):IntKind.i64.wrap ((n:Int)+1)=(n:Int)+1:=QC (by omega) (by omega)
def QJ {c:Type} {l b a} {x:c} (h:l=b ++ x:: a):l.length=b.length+ (a.length+1):=by rw[h];simp
def QN {c:Type} {l b a} {x:c} (h:l=b ++ x:: a): (b.length:Int) < (l.length:Int):=by have:=QJ h;omega
@[simp] def QxF (n a):stV (.t n) a=a.map AV.strip:=rfl
@[simp] def QxC (z a):stV (.c (.sl true z [])) a=a.map fun _=> .sl true z []:=rfl
@[simp] def QxB (k n a):stV (.c (.int k n)) a=a.map AV.strip:=rfl
@[simp] def QxD (s a):stV (.c (.str s)) a=a.map AV.strip:=rfl
@[simp] def Qxo (b a):stV (.c (.bool b)) a=a.map AV.strip:=rfl
@[simp] def Qxz (b a):stV (.c (.agg b)) a=a.map AV.strip:=rfl
@[simp] def QxA (b a):stV (.c (.err b)) a=a.map AV.strip:=rfl
@[simp] def Qxv (i o k):Ll (.gs i o 0 0) (.sl true k [])= .sl true k []:=rfl
@[simp] def Qxi (k n z):Ll (.int k n) z= .int k n:=rfl
@[simp] def Qxj (s z):Ll (.str s) z= .str s:=rfl
@[simp] def QwD (b z):Ll (.bool b) z= .bool b:=rfl
@[simp] def Qxw (o k a z):Ll (.sl o k a) z= .sl false k a:=rfl
attribute [simp] UQ
@[simp] def Qwm (i):AV.strip (.mp i)= .mp i:=rfl
@[simp] def QuS (z b a):AV.strip (.otup z b a)= .tup (.sl false z b:: a):=rfl
@[simp] def QwE (z b a):AV.ok (.otup z b a)=true:=rfl
@[simp] def Qwl (z b a):AV.gpfree (.otup z b a)=(ZL b && Q3 a):=rfl
@[simp] def Qwn (z a):AV.strip (.pv z a)= .pv z a:=rfl
@[simp] def Qxy (z a):AV.ok (.pv z a)=false:=rfl
@[simp] def Qxx (i):AV.ok (.mp i)=true:=rfl
@[simp] def Qxn (i):AV.one (.mp i)=true:=rfl
@[simp] def Qxm (i):AV.gpfree (.mp i)=false:=rfl
def Md:=@Bool.true_or
def VS:=@Bool.true_and
@[simp] def MO: ∀a:Qp,X4 a a=true
 | []=>rfl
 | x:: b=>by simp only[X4,XU,MO b,Md,VS]
@[simp] def QwQ (a):X4 [] a=true:=rfl
@[simp] def QbV (a b c):X4 (a ++ b) (a ++ c)=X4 b c:=by
 induction a with | nil=>rfl | cons x e d=>simp only[XQ,X4,XU,d,Md,VS]
@[simp] def QwP (a c):X4 a (a ++ c)=true:=by
 have:=QbV a [] c;simpa using this
@[simp] def Qwz (x b a):X4 (x:: b) (x:: a)=X4 b a:=by simp only[X4,XU,Md,VS]
def Lx:=@List.set_cons_zero
def GM:=@Bool.or_true
def Ly:=@List.set_cons_succ
@[simp] def As {c} (h:Q3 c=true): ∀b i,X4 b (b.set i c)=true
 | [],_=>rfl
 | x:: a,0=>by simp only[Lx,X4,h,MO,GM,Sb]
 | x:: a,i+1=>by simp only[Ly,X4,XU,As h a i,Md,Sb]
def F8: ∀{c d},c.length<=d.length->(∀(i:Nat) x y,c[i]? =some x->d[i]? =some y->x=y\/Q3 y=true)->X4 c d=true
 | [],_,_,_=>rfl
 | _:: _,[],h,_=>by simp at h
 | x:: c,y:: d,h,f=>by
  simp only[X4,Qr,WI];refine⟨?_,F8 (by simpa using h) fun i a b g j=>f (i+1) a b (by simpa using g) (by simpa using j)⟩;rcases f 0 x y rfl rfl with e | e;subst e;exact .inl (XU x);exact .inr e
@[simp] def Qxt {x y} (h:Q3 y=true) (b a):X4 (x:: b) (y:: a)=X4 b a:=by simp only[X4,h,GM,VS]
@[simp] def Qva:Q3 []=true:=rfl
@[simp] def A0 (x a):Q3 (x:: a)=(x.gpfree && Q3 a):=rfl
@[simp] def Qb2: ∀n:Nat,Q3 (List.replicate n .undef)=true
 | 0=>rfl
 | n+1=>by rw[SC,A0,Qb2 n];rfl
@[simp] def Qtu (a i):X4 a (a.set i [])=true:=As rfl a i
def zcc (n:Nat) {fn:ZQ} (h:tb n=some (.code fn)) {args:Qx} {bs:Qp} (hl:args.length=fn.nparams):
  call tb n args bs=R tb fn.body (Wm args) bs (Qz fn bs):=MM h args bs hl
end Go.Am
namespace Go.Am
set_option maxRecDepth 20000
def JR (a b c):call tb 32 [.int .i64 a,.int .i64 b] c=some (.int .i64 (if a < b then -1 else if a > b then 1 else 0),c):=by
 rw[zcc 32 rfl rfl];simp[f32,f32C]
def PH (c:UInt8):Bool:=(97<=c.toNat && c.toNat<=122) || (65<=c.toNat && c.toNat<=90) || (48<=c.toNat && c.toNat<=57) || c.toNat == 95 || c.toNat == 35
def Gz:=@Bool.eq_iff_iff
def An (n m:Nat): ((n:Int) == (m:Int))=(n == m):=by rw[Gz,UG,UG];omega
def GZ (n:Nat): ((n:Int) == 95)=(n == 95):=An n 95
def GY (n:Nat): ((n:Int) == 35)=(n == 35):=An n 35
def JQ (c a):call tb 9 [.int .u8 c.toNat] a=some (.bool (PH c),a):=by
 rw[zcc 9 rfl rfl];simp (config:={maxSteps:=1000000}) [f9,f9C,PH,GZ,GY];have i: ∀m:Nat,((m:Int)<=(c.toNat:Int))=(m<=c.toNat):=fun m=>by simp
 have h: ∀m:Nat,((c.toNat:Int)<=(m:Int))=(c.toNat<=m):=fun m=>by simp
 simp only[show(97:Int)=((97:Nat):Int)from rfl,show(122:Int)=((122:Nat):Int)from rfl,show(65:Int)=((65:Nat):Int)from rfl,show(90:Int)=((90:Nat):Int)from rfl,show(48:Int)=((48:Nat):Int)from rfl,show(57:Int)=((57:Nat):Int)from rfl,i,h];by_cases f:97<=c.toNat <;> by_cases j:c.toNat<=122 <;> by_cases g:65<=c.toNat <;> by_cases e:c.toNat<=90 <;> by_cases b:48<=c.toNat <;> by_cases d:c.toNat<=57 <;> simp[f,j,g,e,b,d]
def Qb9 (s f) (n:s.length < 4611686018427387904): ∀(k i:Nat) d,s.length - i=k->i<=s.length->d 0= .str s->d 38= .int .i64 s.length->d 39= .int .i64 i->
  R tb (.loop f8l0) d f (Qi 0 (Qu tb f8r0 (Qz f8 f)))=some (.bool ((s.drop i).all PH),f):=by
 intro k;induction k with | zero=>intro i d j l e a b;(have:i=s.length:=by omega);subst this;rw[Qc f8l0.eq_1];simp[e,a,b,f8r0] | succ k m=>intro i d j l e a b;(have c:i < s.length:=by omega);have h:IntKind.i64.wrap ((i:Int)+1)=((i+1:Nat):Int):=QC (by omega) (by omega);rw[Qc f8l0.eq_1,Lt c,Mb];cases g:PH s[i];simp[e,a,b,c,JQ,g];simp[e,a,b,c,JQ,g,h];rw[m (i+1)] <;> first | rfl | omega | simp[e,a]
def Tb:Zq->Bool
 | []=>false
 | c:: r=>decide (r.length < 24) && PH c && !(decide (48<=c.toNat) && decide (c.toNat<=57)) && c.toNat != 95 && c.toNat != 35 && r.all PH
def TL:=@eq_iff_iff
def QbR (s a) (h:s.length < 4611686018427387904):call tb 8 [.str s] a=some (.bool (Tb s),a):=by
 rw[zcc 8 rfl rfl];rcases s with _ | ⟨c,r⟩;simp[f8C,Tb];simp (config:={maxSteps:=1000000}) [f8C,JQ,(Qb9 (c:: r) a h ((c:: r).length - 0) 0),GZ,GY];have i: (24 < (r.length:Int)+1)=(¬r.length < 24):=by rw[TL];omega
 have f: ((48:Int)<=(c.toNat:Int))=(48<=c.toNat):=by rw[TL];omega
 have g: ((c.toNat:Int)<=57)=(c.toNat<=57):=by rw[TL];omega
 simp only[Tb,i,f,g,bne];by_cases d:r.length < 24 <;> by_cases b:48<=c.toNat <;> by_cases e:c.toNat<=57 <;> cases PH c <;> simp[d,b,e]
end Go.Am
namespace Go.Am
set_option maxRecDepth 20000
attribute [simp] Ej Ek
attribute [simp] Ux Y5 Ol ZP
attribute [simp] Wn Sh Xz Zi Qf E7 Qio Qip Qiq Qir Qdk Qdl Qdm Qdn IF YG
attribute [simp] Int.toNat_natCast
attribute [simp] Ej Ek
def Jm (t:Tm) (e) (m:t.mass < big) (o: ∀x∈t.kids,∀e,call tb 31 [.agg (Qd x)] e=some (.int .i64 x.nodes,e)):
  ∀b a d,t.kids=a ++ b->d 7= .sl false 4 (Qa t.kids)->d 8= .int .i64 t.kids.length->d 9= .int .i64 a.length->d 3= .int .i64 (1+Qs a:Nat)->
  R tb (.loop f31l0) d e (Qi 0 (Qu tb f31r0 (Qz f31 e)))=some (.int .i64 t.nodes,e):=by
 have n:=QI t;have q:=Y6 t.kids;unfold big at m;intro b;induction b with | nil=>intro a d c g f h i;rw[Qc f31l0.eq_1];simp at c;simp[i,f,h,<- c,f31r0,W2] | cons x b k=>intro a d c g f h i;have p:=QJ c;(have l:Qs t.kids=Qs a+ (x.nodes+Qs b):=by rw[c,YT];simp[Qs]);have j:IntKind.i64.wrap (1+ (Qs a:Int)+ (x.nodes:Int))=1+ (Qs a:Int)+ (x.nodes:Int):=QC (by omega) (by omega);rw[Qc f31l0.eq_1];simp[i,g,f,h,(QB c),(wr1 a.length (by omega)),j,(QN c),o x (by rw[c];simp)];rw[k (a ++ [x])] <;> simp[g,f,c,YT,Qs];omega
def Na: ∀t a,t.mass < big->call tb 31 [.agg (Qd t)] a=some (.int .i64 t.nodes,a):=by
 refine YC ?_;intro k n s b e a d;rw[zcc 31 rfl rfl];simp[f31C];refine Jm (.mk k n s b) a d (fun x c a=>e x c a ?_) b [] _ ?_ ?_ ?_ ?_ ?_ <;> (try simp[Qs]);have:=QY c;have:=QI (.mk k n s b);simp at *;omega
end Go.Am
namespace Go.Am
set_option maxRecDepth 20000
def two (bs:Qp) (i j:Nat) (n d:Int):Qp:=(bs.set i [.int .i64 n]).set j [.int .i64 d]
section
variable {bs:List (List AV)} {i j:Nat} {n d m:Int}
def N0: (two bs i j n d).length=bs.length:=by simp[two]
def QnB (b:i < bs.length) (a:i≠j): (two bs i j n d)[i]? =some [.int .i64 n]:=by
 rw[two,Un (Ne.symm a),Pe b]
def QnC (a:j < bs.length): (two bs i j n d)[j]? =some [.int .i64 d]:=by simp[two,a]
def Qm5 (a:i≠j): (two bs i j n d).set i [.int .i64 m]=two bs i j m d:=by
 simp only[two];rw[JF _ _ (Ne.symm a),TJ]
@[simp] def Au {f g}:X4 (two bs i j n d) (two bs i j f g)=true:=F8 (by simp[N0]) fun k x y b a=>by
 unfold two at b a;rw[Qy]at b a;split at a;split at a;cases a;exact .inr rfl;cases a;rename_i c;rw[Qb c]at b;rw[Qy]at b a;split at a;split at a;cases a;exact .inr rfl;cases a;rename_i e;rw[Qb e,a]at b;injection b with b;exact .inl b.symm
def Qm6: (two bs i j n d).set j [.int .i64 m]=two bs i j n m:=by simp[two]
end
def OK (t:Tm):Int:=
 if t.kind=1\/t.kind=2 then
  if(t.sort < 0\/5 < t.sort)\/0 < t.kids.length then 1 else if Tb t.name=false then 2 else if 8 < t.kids.length then 3 else 0
 else if t.kind=3 then
  if t.sort≠0 then 1 else if Tb t.name=false then 2 else if 8 < t.kids.length then 3 else 0
 else 1
mutual
def XO:Tm->Int
 | .mk k n s ks=>if OK (.mk k n s ks)≠0 then OK (.mk k n s ks)else Vo ks
def Vo:List Tm->Int
 | []=>0
 | t:: ts=>if XO t≠0 then XO t else Vo ts
end
mutual
def Ts:Tm->Int->Int×Int->Int×Int
 | .mk k n s ks,l,p=>if OK (.mk k n s ks)≠0 then(p.1+1,if l > p.2 then l else p.2)else SV ks l (p.1+1,if l > p.2 then l else p.2)
def SV:List Tm->Int->Int×Int->Int×Int
 | [],_,p=>p
 | t:: ts,l,p=>if XO t≠0 then Ts t (l+1) p else SV ts l (Ts t (l+1) p)
end
mutual
theorem Qdd: ∀(t:Tm) (l:Int) (p:Int×Int),p.1<=(Ts t l p).1/\(Ts t l p).1<=p.1+t.nodes
 | .mk k n s ks,l,p=>by
  simp only[Ts,Tm.nodes];have:=Qdb ks l (p.1+1,if l > p.2 then l else p.2);split <;> simp at * <;> omega
theorem Qdb: ∀(ts:List Tm) (l:Int) (p:Int×Int),p.1<=(SV ts l p).1/\(SV ts l p).1<=p.1+Qs ts
 | [],l,p=>by simp[SV,Qs]
 | t:: ts,l,p=>by
  simp only[SV,Qs];have:=Qdd t (l+1) p;have:=Qdb ts l (Ts t (l+1) p);split <;> omega
end
def Qfg (t:Tm) (l:Int) (bs i j) (N:i < bs.length) (L:j < bs.length) (w:i≠j) (O:t.mass < big) (M:0<=l/\l+t.depth<=big) (E I)
  (D: ∀x∈t.kids,∀n d:Int,0<=n->n+x.nodes < 2*big->call tb 7 [.agg (Qd x),.int .i64 (l+1),.gp i 0,.gp j 0] (two bs i j n d)=some (.int .i64 (XO x),two bs i j (Ts x (l+1) (n,d)).1 (Ts x (l+1) (n,d)).2)):
  ∀a b (n d:Int) g,0<=n->n+Qs a < 2*big->t.kids=b ++ a->g 57= .sl false 4 (Qa t.kids)->g 58= .int .i64 t.kids.length->g 59= .int .i64 b.length->
   g 1= .int .i64 l->g 2= .gp i 0->g 3= .gp j 0->
  R tb (.loop f7l0) g (two bs i j n d) (Qi 1 (Qu tb f7r0 (Qz f7 (two bs i j E I))))=
   some (.int .i64 (Vo a),two bs i j (SV a l (n,d)).1 (SV a l (n,d)).2):=by
 have K:=QI t;have J:=Ke t;unfold big at *;have H:=Ne.symm w;intro a;induction a with | nil=>intro b n d g A p h e c f s u r;rw[Qc f7l0.eq_1];simp at h;simp[e,c,f,<- h,f7r0,Vo,SV,N0];rw[Z7 (by simp[N0])];exact⟨Au,rfl⟩ | cons x a C=>intro b n d g A p h e c f s u r;have B:=QB h;(have z:t.kids.length=b.length+ (a.length+1):=by rw[h];simp);simp only[Qs]at p;have k:=wr1 b.length (by omega);have q:IntKind.i64.wrap (l+1)=l+1:=QC (by omega) (by omega);(have o: (b.length:Int) < (t.kids.length:Int):=by omega);have y:=D x (by rw[h];simp) n d A (by omega);have G:=Qdd x (l+1) (n,d);rw[Qc f7l0.eq_1];by_cases v:XO x=0;simp[s,u,r,e,c,f,B,k,q,o,y,v];simp only[Vo,SV,v,ne_eq,not_true,ZT];rw[C (b ++ [x])] <;> (first | simp at G;omega | simp[s,u,r,e,c,h]);simp[s,u,r,e,c,f,B,k,q,o,y,v,Vo,SV];rw[Z7 (by simp[N0])];exact⟨Au,rfl⟩
def Qfc: ∀t (l:Int) bs i j (n d:Int),i < bs.length->j < bs.length->i≠j->t.mass < big->0<=l->l+t.depth<=big->0<=n->n+t.nodes < 2*big->
  call tb 7 [.agg (Qd t),.int .i64 l,.gp i 0,.gp j 0] (two bs i j n d)=some (.int .i64 (XO t),two bs i j (Ts t l (n,d)).1 (Ts t l (n,d)).2):=by
 refine YC ?_;intro k v s c Q l bs i j n d A z e D P p K h;have q:=QI (.mk k v s c);have w:=W2 (.mk k v s c);have r:=Ke (.mk k v s c);simp only[ZP,Y5]at q w r;have N:=T4 c;have I:=Y6 c;have f: ∀g:Yd,g 57= .sl false 4 (Qa c)->g 58= .int .i64 c.length->g 59= .int .i64 0->g 1= .int .i64 l->g 2= .gp i 0->g 3= .gp j 0->R tb (.loop f7l0) g (two bs i j (n+1) (if l > d then l else d)) (Qi 1 (Qu tb f7r0 (Qz f7 (two bs i j n d))))=some (.int .i64 (Vo c),two bs i j (SV c l (n+1,if l > d then l else d)).1 (SV c l (n+1,if l > d then l else d)).2):=by intro g C B M J L S;refine Qfg (.mk k v s c) l bs i j A z e D ⟨P,p⟩ n d ?_ c [] (n+1) (if l > d then l else d) g (by omega) (by omega) rfl C B M J L S;intro x E n d K h;have J:=QY E;have L:=G2 E;simp only[ZP]at J L;exact Q x E (l+1) bs i j n d A z e (by omega) (by omega) (by omega) K h
 unfold big at D h;have O:IntKind.i64.wrap (n+1)=n+1:=QC (by omega) (by omega);have G:=Ne.symm e;have y: ∀(a b:Int),List.take bs.length (two bs i j a b)=two bs i j a b:=fun a b=>Z7 (by simp[N0]);have o:v.length < 4611686018427387904:=by omega
 have u: ((8:Int) < c.length)=(8 < c.length):=by rw[TL];omega
 rw[zcc 7 rfl rfl];simp (config:={maxSteps:=1000000}) [f7C,O,QnB A e,QnC z,Qm5 e,Qm6,N0,QbR,o,y,u];simp only[gt_iff_lt]at f;clear Q D P p K h q w r N I O y o u A z e G;generalize H: (if d < l then l else d)=T at *;simp only[Tx,QM,WI];repeat' split
 all_goals simp only[XO,Ts,OK,Ux,Ol,Y5,ZP,gt_iff_lt,H]
 all_goals first | rw[f] <;> simp[*];done | simp[*];done | skip
def QR (t:Tm):Int:=if XO t≠0 then XO t else if 400 < t.nodes\/40 < t.depth then 3 else 0
mutual
theorem Qde: ∀(t:Tm) (l:Int) (p:Int×Int),XO t=0->Ts t l p=(p.1+t.nodes,max p.2 (l+t.depth - 1))
 | .mk k n s ks,l,p,h=>by
  simp only[XO]at h;split at h
  ·rename_i hne;exact absurd h hne
  ·rename_i hne;simp only[Ts,hne,ZT,Tm.nodes,Tm.depth];rw[Qdc ks l _ h];refine Prod.ext ?_ ?_
   ·simp;omega
   ·cases ks with
    | nil=>simp[XC,Qs];split <;> omega
    | cons t ts=>simp[XC];split <;> omega
theorem Qdc: ∀(ts:List Tm) (l:Int) (p:Int×Int),Vo ts=0->SV ts l p=(p.1+Qs ts,if ts=[]then p.2 else max p.2 (l+XC ts))
 | [],l,p,_=>by simp[SV,Qs]
 | t:: ts,l,p,h=>by
  simp only[Vo]at h;split at h
  ·rename_i hne;exact absurd h hne
  ·rename_i hne;have he:XO t=0:=by simpa using hne
   simp only[SV,hne,ZT,Qs,XC];rw[Qdc ts l _ h,Qde t (l+1) p he];refine Prod.ext ?_ ?_
   ·simp;omega
   ·cases ts with
    | nil=>simp[XC];omega
    | cons u us=>simp[XC];omega
end
def Tr (t bs) (e:t.mass < big):call tb 6 [.agg (Qd t)] bs=some (.int .i64 (QR t),bs):=by
 have f:bs ++ [[AV.int .i64 0],[AV.int .i64 0]]=two (bs ++ [[AV.int .i64 0],[AV.int .i64 0]]) bs.length (bs.length+1) 0 0:=by simp[two]
 have k:=YU t;have l:=LK t;have o:big=1099511627776:=rfl;have c:=Qfc t 1 (bs ++ [[AV.int .i64 0],[AV.int .i64 0]]) bs.length (bs.length+1) 0 0 (by simp) (by simp) (by omega) e (by omega) (by omega) (by omega) (by omega);rw[<- f]at c;have a:List.take bs.length (two (bs ++ [[AV.int .i64 0],[AV.int .i64 0]]) bs.length (bs.length+1) (Ts t 1 (0,0)).1 (Ts t 1 (0,0)).2)=bs:=by simp[two]
 rw[zcc 6 rfl rfl];simp[f6C,c,(QnB (bs:=bs ++ [[AV.int .i64 0],[AV.int .i64 0]]) (i:=bs.length) (j:=bs.length+1) (n:=(Ts t 1 (0,0)).1) (d:=(Ts t 1 (0,0)).2) (by simp) (by omega)),(QnC (bs:=bs ++ [[AV.int .i64 0],[AV.int .i64 0]]) (i:=bs.length) (j:=bs.length+1) (n:=(Ts t 1 (0,0)).1) (d:=(Ts t 1 (0,0)).2) (by simp)),a,QR];by_cases b:XO t=0;have:=Ke t;have g: (400 < (t.nodes:Int))=(400 < t.nodes):=by rw[TL];omega
 have h: (40 < (max 0 (1+ (t.depth:Int) - 1)))=(40 < t.depth):=by rw[TL];omega
 simp[b,(Qde t 1 (0,0)) b,g,h];simp[b]
end Go.Am
namespace Go.Am
set_option maxRecDepth 20000
def Ka (a b c):call tb 32 [.int .i64 a,.int .i64 b] c=some (.int .i64 (sgn a b),c):=JR a b c
def Hp (a b c):call tb 33 [.str a,.str b] c=some (.int .i64 (Vl a b),c):=by
 rw[Xv tb_33];rfl
def N2 (t u h) (C:t.mass < big) (A:u.mass < big)
  (B: ∀x∈t.kids,∀y h,y.mass < big->call tb 30 [.agg (Qd x),.agg (Qd y)] h=some (.int .i64 (Qm x y),h)):
  ∀f g a b c j,t.kids=a ++ f->u.kids=b ++ g->a.length=b.length->(c=0->f.length=g.length)->
   j 2= .bx (Qd t)->j 3= .bx (Qd u)->j 5= .int .i64 c->j 6= .int .i64 a.length->
  R tb (.loop f30l0) j h (Qi 0 (Qu tb f30r0 (Qz f30 h)))=some (.int .i64 (or0 c (WO f g)),h):=by
 have z:=QI t;have D:=QI u;intro f;induction f with | nil=>intro g a b c j k e p v l q m n;rw[Qc f30l0.eq_1];simp at k;by_cases i:c=0;simp[l,m,n,i,f30r0,k,WO,Cc];simp[l,m,n,i,f30r0,WO,Cc] | cons x f w=>intro g a b c j k e p v l q m n;rw[Qc f30l0.eq_1];by_cases i:c=0;(· (obtain⟨y,d,rfl⟩: ∃y d,g=y:: d:=by have:=v i;rcases g with _ | ⟨y,d⟩;simp at this;exact⟨y,d,rfl⟩);have o:=QB e;rw[<- p]at o;(have E:t.kids.length=a.length+ (f.length+1):=by rw[k];simp);(have r: (a.length:Int) < (t.kids.length:Int):=by omega);(have s:y.mass < big:=by have:=QY (x:=y) (ks:=u.kids) (by rw[e];simp);omega);unfold big at C A;simp[l,q,m,n,i,r,(QB k),o,(wr1 a.length (by omega)),B x (by rw[k];simp) y h s];rw[w d (a ++ [x]) (b ++ [y]) (Qm x y)] <;> first | omega | simp[k,e,p,l,q,WO,SQ];done | intro _;have:=v i;simp at this;omega);simp[l,m,n,i,f30r0,My]
def call_Compare: ∀t u a,t.mass < big->u.mass < big->call tb 30 [.agg (Qd t),.agg (Qd u)] a=some (.int .i64 (Qm t u),a):=by
 refine YC ?_;intro k n s b j u a h i;rw[zcc 30 rfl rfl,Ob];simp[f30C,(Na (.mk k n s b) a h),(Na u a i),Ka,Hp];by_cases f:sgn (Tm.mk k n s b).nodes u.nodes=0 <;> by_cases c:sgn k u.kind=0 <;> by_cases d:Vl n u.name=0 <;> by_cases e:sgn s u.sort=0 <;> simp[f,c,d,e,Tx] <;> rw[(N2 (.mk k n s b) u a h i (fun x g y a l=>j x g y a (by have:=QY g;have:=QI (.mk k n s b);simp at *;omega) l) b u.kids [] [] (hdT (.mk k n s b) u))] <;> first | simp[hdT,f,c,d,e,SQ,My];done | simp[hdT,f,c,d,e,MC,SQ];omega | skip
def QeV (t e) (k:t.mass < big) (n: ∀x∈t.kids,∀e,call tb 60 [.agg (Qd x)] e=some (.int .i64 x.nodes,e)):
  ∀b a d,t.kids=a ++ b->d 1= .bx (Qd t)->d 4= .int .i64 a.length->d 3= .int .i64 (1+Qs a:Nat)->
  R tb (.loop f60l0) d e (Qi 0 (Qu tb f60r0 (Qz f60 e)))=some (.int .i64 t.nodes,e):=by
 have l:=QI t;have o:=Y6 t.kids;unfold big at k;intro b;induction b with | nil=>intro a d c f g h;rw[Qc f60l0.eq_1];simp at c;simp[f,h,g,<- c,f60r0,W2] | cons x b j=>intro a d c f g h;have p:=QJ c;(have m:Qs t.kids=Qs a+ (x.nodes+Qs b):=by rw[c,YT];simp[Qs]);have i:IntKind.i64.wrap (1+ (Qs a:Int)+ (x.nodes:Int))=1+ (Qs a:Int)+ (x.nodes:Int):=QC (by omega) (by omega);rw[Qc f60l0.eq_1];simp[h,f,g,(QB c),(wr1 a.length (by omega)),i,(QN c),n x (by rw[c];simp)];rw[j (a ++ [x])] <;> simp[f,c,YT,Qs];omega
def L9: ∀t a,t.mass < big->call tb 60 [.agg (Qd t)] a=some (.int .i64 t.nodes,a):=by
 refine YC ?_;intro k n s b e a d;rw[zcc 60 rfl rfl];simp[f60C];refine QeV (.mk k n s b) a d (fun x c a=>e x c a ?_) b [] _ ?_ ?_ ?_ ?_ <;> (try simp[Qs]);have:=QY c;have:=QI (.mk k n s b);simp at *;omega
def DP (a b):XC (a ++ b)=max (XC a) (XC b):=by
 induction a with | nil=>simp[XC] | cons t d c=>simp[XC,c]
def QbD (t e) (k:t.mass < big) (n: ∀x∈t.kids,∀e,call tb 61 [.agg (Qd x)] e=some (.int .i64 x.depth,e)):
  ∀b a d,t.kids=a ++ b->d 1= .bx (Qd t)->d 4= .int .i64 a.length->d 3= .int .i64 (XC a:Nat)->
  R tb (.loop f61l0) d e (Qi 0 (Qu tb f61r0 (Qz f61 e)))=some (.int .i64 t.depth,e):=by
 have l:=QI t;have o:=T4 t.kids;have m:=Y6 t.kids;unfold big at k;intro b;induction b with | nil=>intro a d c f g h;rw[Qc f61l0.eq_1];simp at c;have i:IntKind.i64.wrap ((XC a:Int)+1)=(XC a:Int)+1:=QC (by omega) (by rw[<- c];omega);simp[f,h,g,c,i,f61r0,Ke] | cons x b j=>intro a d c f g h;have p:=QJ c;rw[Qc f61l0.eq_1];simp[h,f,g,(QB c),(wr1 a.length (by omega)),(QN c),n x (by rw[c];simp)];rw[j (a ++ [x])] <;> simp[f,c,DP,XC];split <;> omega
def QbN: ∀t a,t.mass < big->call tb 61 [.agg (Qd t)] a=some (.int .i64 t.depth,a):=by
 refine YC ?_;intro k n s b e a d;rw[zcc 61 rfl rfl];simp[f61C];refine QbD (.mk k n s b) a d (fun x c a=>e x c a ?_) b [] _ ?_ ?_ ?_ ?_ <;> (try simp[XC]);have:=QY c;have:=QI (.mk k n s b);simp at *;omega
def Ag (a b c):call tb 91 [.int .i64 a,.int .i64 b] c=some (.int .i64 (sgn a b),c):=by
 rw[zcc 91 rfl rfl];simp[f91,f91C,sgn]
def DJ (t u f) (A:t.mass < big) (z:u.mass < big)
  (w: ∀x∈t.kids,∀y f,y.mass < big->call tb 90 [.agg (Qd x),.agg (Qd y)] f=some (.int .i64 (Qm x y),f)):
  ∀g i a b j,t.kids=a ++ g->u.kids=b ++ i->a.length=b.length->g.length=i.length->
   j 2= .bx (Qd t)->j 3= .bx (Qd u)->j 9= .int .i64 a.length->
  R tb (.loop f90l0) j f (Qi 0 (Qu tb f90r0 (Qz f90 f)))=some (.int .i64 (WO g i),f):=by
 have B:=QI t;have D:=QI u;intro g;induction g with | nil=>intro i a b j e d q s l o p;rw[Qc f90l0.eq_1];simp at e;simp[l,p,f90r0,e,WO] | cons x g C=>intro i a b j e d q s l o p;rw[Qc f90l0.eq_1];(obtain⟨y,c,rfl⟩: ∃y c,i=y:: c:=by rcases i with _ | ⟨y,c⟩;simp at s;exact⟨y,c,rfl⟩);have v:=QB e;have h:=QB d;rw[<- q]at h;(have E:t.kids.length=a.length+ (g.length+1):=by rw[e];simp);(have k: (a.length:Int) < (t.kids.length:Int):=by omega);(have n:y.mass < big:=by have:=QY (x:=y) (ks:=u.kids) (by rw[d];simp);omega);unfold big at A z;have m:=wr1 a.length (by omega);by_cases r:Qm x y=0;(· simp[l,o,p,r,k,v,h,m,w x (by rw[e];simp) y f n];rw[C c (a ++ [x]) (b ++ [y])] <;> first | omega | simp[e,d,q,r,l,o,WO,SQ];done | simp at s;omega);simp[l,o,p,r,k,v,h,m,w x (by rw[e];simp) y f n,WO,My]
def Uw: ∀t u a,t.mass < big->u.mass < big->call tb 90 [.agg (Qd t),.agg (Qd u)] a=some (.int .i64 (Qm t u),a):=by
 refine YC ?_;intro k n s b h u a f e;rw[zcc 90 rfl rfl,Ob];simp[f90C,(L9 (.mk k n s b) a f),(L9 u a e),Ag];have i:Vl n u.name=if Op.bytesLess n u.name then -1 else if(Op.bytesLess n u.name || n == u.name)=false then 1 else 0:=by unfold Vl;cases Op.bytesLess n u.name <;> cases o: (n == u.name) <;> simp
 generalize (n == u.name)=q at *;generalize Op.bytesLess n u.name=p at *;by_cases l:sgn (Tm.mk k n s b).nodes u.nodes=0 <;> by_cases g:sgn k u.kind=0 <;> cases p <;> cases q <;> by_cases m:sgn s u.sort=0 <;> by_cases c:sgn b.length u.kids.length=0 <;> simp[l,g,m,c,Tx,hdT,SQ,My,i];all_goals rw[(DJ (.mk k n s b) u a f e (fun x d y a j=>h x d y a (by have:=QY d;have:=QI (.mk k n s b);simp at *;omega) j) b u.kids [] [])] <;> (try simp) <;> (try have:=MC.1 c;omega)
def Vs (t u a) (b:t.mass < big) (c:u.mass < big):call tb 89 [.agg (Qd t),.agg (Qd u)] a=some (.bool (decide (Qm t u=0)),a):=by
 rw[zcc 89 rfl rfl];simp[f89,f89C,Uw t u a b c]
end Go.Am
namespace Go.Am
set_option maxRecDepth 20000
end Go.Am
namespace Go.Am
set_option maxRecDepth 20000
def RR (c:UInt8):Bool:=(97<=c.toNat && c.toNat<=122) || (65<=c.toNat && c.toNat<=90)
def Mo (c:UInt8):Bool:=48<=c.toNat && c.toNat<=57
def Rs (c):PH c=(RR c || Mo c || c.toNat == 95 || c.toNat == 35):=rfl
def SM (m n:Nat): ((m:Int)<=(n:Int))=(m<=n):=by rw[TL];omega
def Lh (c a):call tb 58 [.int .u8 c.toNat] a=some (.bool (RR c),a):=by
 rw[zcc 58 rfl rfl];have f: ((97:Int)<=(c.toNat:Int))=(97<=c.toNat):=SM 97 _;have b: ((c.toNat:Int)<=122)=(c.toNat<=122):=SM _ 122;have d: ((65:Int)<=(c.toNat:Int))=(65<=c.toNat):=SM 65 _;have e: ((c.toNat:Int)<=90)=(c.toNat<=90):=SM _ 90;simp[f58,f58C,RR,f,b,d,e]
def GW (c a):call tb 59 [.int .u8 c.toNat] a=some (.bool (Mo c),a):=by
 rw[zcc 59 rfl rfl];have d: ((48:Int)<=(c.toNat:Int))=(48<=c.toNat):=SM 48 _;have b: ((c.toNat:Int)<=57)=(c.toNat<=57):=SM _ 57;simp[f59,f59C,Mo,d,b]
def EW (n:Nat): ((n:Int)=95)=(n=95):=by rw[TL];omega
def EV (n:Nat): ((n:Int)=35)=(n=35):=by rw[TL];omega
def Gl:=@Bool.or_eq_false_iff
def Bj (s l) (u:s.length < 4611686018427387904): ∀a b h,s=b ++ a->h 0= .str s->h 3= .int .i64 b.length->
  R tb (.loop f57l0) h l (Qi 0 (Qu tb f57r0 (Qz f57 l)))=some (.bool (a.all PH),l):=by
 intro a;induction a with | nil=>intro b h c g i;rw[Qc f57l0.eq_1];simp at c;simp[g,i,c,f57r0] | cons x a t=>intro b h c g i;have m:=QB c;have v:=QJ c;have e:=wr1 b.length (by omega);have f:=QN c;rw[Qc f57l0.eq_1];cases d:PH x;rw[Rs]at d;simp only[Gl]at d;obtain⟨⟨⟨p,n⟩,q⟩,o⟩:=d;(have k: ¬x.toNat=95:=by simpa using q);(have j: ¬x.toNat=35:=by simpa using o);simp[g,i,m,e,f,Lh,GW,p,n,k,j,EW,EV,Rs];simp[g,i,m,e,f,Lh,GW,EW,EV,Rs,Tx];split;rename_i r;simp[Rs,r]at d;rw[t (b ++ [x])];simp[Rs]at d;simp[d];simp[c];simp[g];simp
def QfN {c} (h:RR c=true):Mo c=false/\(c.toNat == 95)=false/\(c.toNat == 35)=false:=by
 simp only[RR,WI,Qr,QM]at h;refine⟨?_,?_,?_⟩;simp only[Mo,Bool.and_eq_false_iff,Oz];omega;simp;omega;simp;omega
def Qb8 (c r):Tb (c:: r)=(decide (r.length < 24) && RR c && (c:: r).all PH):=by
 have d: (decide (48<=c.toNat) && decide (c.toNat<=57))=Mo c:=rfl;simp only[Tb,Mb,d,bne];cases a:RR c;rw[Rs,a];cases Mo c <;> cases (c.toNat == 95) <;> cases (c.toNat == 35) <;> simp;obtain⟨f,e,b⟩:=QfN a;rw[Rs,a,f,e,b];simp
def Af (s a) (f:s.length < 4611686018427387904):call tb 57 [.str s] a=some (.bool (Tb s),a):=by
 rw[zcc 57 rfl rfl];rcases s with _ | ⟨c,r⟩;simp[f57C,Tb];have g: (24 < (r.length:Int)+1)=¬(r.length < 24):=by rw[TL];omega
 have e: ((r.length:Int)+1=0)=False:=eq_false (by omega);rw[Qb8];by_cases d:r.length < 24 <;> cases b:RR c <;> simp[f57C,Lh,g,e,d,b,-List.all_cons];rw[Bj (c:: r) a f (c:: r) []] <;> (try simp)
def Qe7 (s n a):call tb 107 [.str s,.int .i64 n] a=some (.agg (Qd (.mk 2 s n [])),a):=by
 rw[zcc 107 rfl rfl];simp[f107,f107C,Qfr]
end Go.Am
namespace Go.Am
set_option maxRecDepth 20000
def Tq: ∀a:Zq,Op.bytesLess a a=false
 | []=>rfl
 | c:: r=>by simp[Op.bytesLess,Tq r]
def EZ (a):Vl a a=0:=by simp[Vl,Tq]
def QmN (a):sgn a a=0:=MC.2 rfl
def QlR (t):hdT t t=0:=by simp[hdT,QmN,EZ,or0]
mutual
theorem Xc: ∀t:Tm,Qm t t=0
 | .mk k n s ks=>by rw[Qm,QlR,SQ];exact EY ks
theorem EY: ∀ts:List Tm,WO ts ts=0
 | []=>by simp[WO]
 | t:: ts=>by rw[WO,Xc t,SQ];exact EY ts
end
end Go.Am
namespace Go.Am
set_option maxRecDepth 20000
def Qfh (t g) (l:t.mass < big) (m: ∀x∈t.kids,∀g,call tb 48 [.agg (Qd x)] g=some (.agg (Qd x),g)):
  ∀b a e,t.kids=a ++ b->e 1= .bx [.int .i64 t.kind,.str t.name,.int .i64 t.sort,.sl true 4 (Qa a)]->e 2= .bx [.int .i64 0,.str [],.int .i64 0,.sl true 4 []]->
   e 9= .sl false 4 (Qa t.kids)->e 10= .int .i64 t.kids.length->e 11= .int .i64 a.length->
  R tb (.loop f48l0) e g (Qi 0 (Qu tb f48r0 (Qz f48 g)))=some (.agg (Qd t),g):=by
 have n:=QI t;unfold big at l;intro b;induction b with | nil=>intro a e f h j i d c;rw[Qc f48l0.eq_1];simp at f;rw[<- f]at h c;simp[h,j,i,d,c,f48r0,Sg,Tm.eta] | cons x b o=>intro a e f h j i d c;have p:=QJ f;(have k: (a.length+1)*56<=140737488355328:=by omega);rw[Qc f48l0.eq_1];simp[h,i,d,c,(QB f),(wr1 a.length (by omega)),(QN f),k,m x (by rw[f];simp),ZN,Q7];rw[o (a ++ [x])] <;> simp[j,i,d,f]
def Nu: ∀t a,t.mass < big->call tb 48 [.agg (Qd t)] a=some (.agg (Qd t),a):=by
 refine YC ?_;intro k n s b e a d;rw[zcc 48 rfl rfl];simp[f48C,Qd];refine Qfh (.mk k n s b) a d (fun x c a=>e x c a ?_) b [] _ ?_ ?_ ?_ ?_ ?_ ?_ <;> (try simp[Qa]);have:=QY c;have:=QI (.mk k n s b);simp at *;omega
def Qk5 (t a) (b:t.mass < big) (o):call tb 47 [.agg (Qd t),.sl o 1 []] a=some (.tup [.agg (Qd t),.int .i64 0],a):=by
 rw[zcc 47 rfl rfl];simp[f47C];rw[Qc f47l0.eq_1];simp[f47r0,Nu t a b]
def Ak (n a o b):call tb 49 [.str n,.sl o 4 (Qa a)] b=some (.agg (Qd (.mk 3 n 0 a)),b):=by
 rw[zcc 49 rfl rfl];simp[f49,f49C,Sg]
structure Sy where
 n:List UInt8
 l:Int
 m:Int
 k:Int
def Uu (s:Sy):Qx:=[.str s.n,.int .i64 s.l,.int .i64 s.m,.int .i64 s.k]
def WP:List Sy:=[⟨[112,97,105,114],2,2,1⟩,⟨[101,110,99],2,2,1⟩,⟨[97,101,110,99],2,2,1⟩,⟨[112,107],1,1,1⟩,⟨[115,105,103,110],2,2,1⟩,⟨[104,97,115,104],1,1,1⟩,
 ⟨[120,111,114],2,8,1⟩,⟨[122,101,114,111],0,0,1⟩,⟨[101,120,112],2,2,1⟩,⟨[109,117,108],2,8,1⟩,⟨[105,110,118],1,1,1⟩,⟨[111,110,101],0,0,1⟩,
 ⟨[115,107],1,1,2⟩,⟨[115,104,107],2,2,2⟩,⟨[110,101,119],1,8,2⟩,⟨[102,115,116],1,1,3⟩,⟨[115,110,100],1,1,3⟩,⟨[100,101,99],2,2,3⟩,⟨[97,100,101,99],2,2,3⟩,⟨[111,112,101,110],2,2,3⟩,⟨[114,101,97,100],1,1,3⟩]
def VY (ys:List Sy):Qp:=ys.map Uu
@[simp] def DR (a):ZL (VY a)=true:=by
 induction a with | nil=>rfl | cons y a b=>simpa[VY,Uu,ZL,Q3,AV.gpfree]using b
@[simp] def QwC (a): (VY a).length=a.length:=by simp[VY]
def Aj (k l m n a b) (f:a.length < 1000):
  call tb 45 [.int .i64 k,.str n,.int .i64 l,.int .i64 m,.gp b.length 0] (b ++ [[.sl true 4 (VY a)]])=some (.tup [],b ++ [[.sl true 4 (VY (a ++ [⟨n,l,m,k⟩]))]]):=by
 rw[zcc 45 rfl rfl];have e: (a.length+1)*40<=140737488355328:=by omega
 have c:VY (a ++ [⟨n,l,m,k⟩])=VY a ++ [[.str n,.int .i64 l,.int .i64 m,.int .i64 k]]:=by simp[VY,Uu]
 have d:ZL (VY a ++ [[.str n,.int .i64 l,.int .i64 m,.int .i64 k]])=true:=by rw[<- c];exact DR _
 simp[f45,f45C,e,c,d,Z7,Q3]
def Qh8 (k l m n a):
  call tb 45 [.int .i64 k,.str n,.int .i64 l,.int .i64 m,.gp a.length 0] (a ++ [[.sl true 4 []]])=some (.tup [],a ++ [[.sl true 4 (VY [⟨n,l,m,k⟩])]]):=Aj k l m n [] a (by simp)
def Ai (a):call tb 44 [] a=some (.sl false 4 (VY WP),a):=by
 rw[zcc 44 rfl rfl];simp only[f44,f44C];simp[Qh8,Aj,WP]
def YZ (n:Zq):List Sy->Option Sy
 | []=>none
 | s:: ss=>if s.n=n then some s else YZ n ss
def J1 {l b a s} (h:l=b ++ s:: a): (VY l)[b.length]? =some (Uu s):=by
 subst h;simp[VY]
def Qcr (n l o) (u:l.length < 1000):
  ∀a b c,l=b ++ a->c 0= .str n->c 2= .bx [.str [],.int .i64 0,.int .i64 0,.int .i64 0]->
   c 5= .sl false 4 (VY l)->c 6= .int .i64 l.length->c 7= .int .i64 b.length->
  R tb (.loop f43l0) c o (Qi 0 (Qu tb f43r0 (Qz f43 o)))=
   some (.agg (match YZ n a with | some s=>Uu s | none=>[.str [],.int .i64 0,.int .i64 0,.int .i64 0]),o):=by
 intro a;induction a with | nil=>intro b c d k j e f i;rw[Qc f43l0.eq_1];simp at d;rw[<- d]at i;simp[j,e,f,i,f43r0,YZ] | cons x a r=>intro b c d k j e f i;have q:=J1 d;have t:=QJ d;have g:=wr1 b.length (by omega);have h:=QN d;rw[Qc f43l0.eq_1];by_cases p:x.n=n;simp[k,j,e,f,i,q,g,h,Uu,p,YZ];(have m: (x.n == n)=false:=by simp[p]);simp[k,j,e,f,i,q,g,h,Uu,p,m,YZ];rw[r (b ++ [x])] <;> simp[k,j,e,f,d,Uu]
def Vt (n a):call tb 43 [.str n] a=some (.agg (match YZ n WP with | some s=>Uu s | none=>[.str [],.int .i64 0,.int .i64 0,.int .i64 0]),a):=by
 rw[zcc 43 rfl rfl];simp[f43C,Ai];refine Qcr n WP a (by simp[WP]) WP [] _ rfl ?_ ?_ ?_ ?_ ?_ <;> simp
end Go.Am
namespace Go.Am
set_option maxRecDepth 20000
def Rj (k:Tm):Bool:=k.kind == 3 || k.sort != 1
mutual
def X5:Tm->Int
 | .mk k n _ ks=>if k≠3 then 0 else match YZ n WP with
  | none=>10
  | some y=>if(ks.length:Int) < y.l\/y.m < ks.length then 6 else if(n=[115,107]\/n=[115,104,107])/\ks.any Rj then 10
   else if n=[110,101,119]/\ks.head?.map Tm.kind≠some 2 then 10 else SU ks
def SU:List Tm->Int
 | []=>0
 | t:: ts=>if X5 t≠0 then X5 t else SU ts
end
def Qk9 (t:Tm) (e) (n:t.mass < big) (k: ∀x∈t.kids,∀e,call tb 42 [.agg (Qd x)] e=some (.int .i64 (X5 x),e)):
  ∀a b d,t.kids=b ++ a->d 62= .sl false 4 (Qa t.kids)->d 63= .int .i64 t.kids.length->d 64= .int .i64 b.length->
  R tb (.loop f42l1) d e (Qi 3 (Qu tb f42r0 (Qz f42 e)))=some (.int .i64 (SU a),e):=by
 have o:=QI t;unfold big at n;intro a;induction a with | nil=>intro b d c j g f;rw[Qc f42l1.eq_1];simp at c;rw[<- c]at f;simp[j,g,f,f42r0,SU] | cons x a p=>intro b d c j g f;have m:=QB c;have q:=QJ c;have h:=wr1 b.length (by omega);have i:=QN c;rw[Qc f42l1.eq_1];by_cases l:X5 x=0;simp[j,g,f,m,h,i,k x (by rw[c];simp),l,SU];rw[p (b ++ [x])] <;> simp[j,g,c];simp[j,g,f,m,h,i,k x (by rw[c];simp),l,SU]
def Ap (t a) (c:t.mass < big) (d: ∀x∈t.kids,∀a,call tb 42 [.agg (Qd x)] a=some (.int .i64 (X5 x),a)) (b) (e:b 1= .bx (Qd t)):
  R tb f42r1 b a (Qz f42 a)=some (.int .i64 (SU t.kids),a):=by
 simp[f42r1,e,Ya];refine Qk9 t a c d t.kids [] _ rfl ?_ ?_ ?_ <;> simp
def Qk8 (t i) (r:t.mass < big) (u: ∀x∈t.kids,∀i,call tb 42 [.agg (Qd x)] i=some (.int .i64 (X5 x),i)):
  ∀(a b:Qj) d,t.kids=b ++ a->d 1= .bx (Qd t)->d 38= .sl false 4 (Qa t.kids)->d 39= .int .i64 t.kids.length->d 40= .int .i64 b.length->
  R tb (.loop f42l0) d i (Qi 1 (Qi 0 (Qu tb f42r1 (Qz f42 i))))=some (.int .i64 (if a.any Rj then 10 else SU t.kids),i):=by
 have v:=QI t;unfold big at r;intro a;induction a with | nil=>intro b d h o l k j;rw[Qc f42l0.eq_1];simp at h;rw[<- h]at j;simp[l,k,j];rw[Ap t i r u] <;> simp[o] | cons x a s=>intro b d h o l k j;have n:=QB h;have w:=QJ h;have g:=wr1 b.length (by omega);have f:=QN h;rw[Qc f42l0.eq_1];by_cases c:x.kind=3;simp[l,k,j,n,g,f,Ya,c,Rj];by_cases m:x.sort=1;(have p:Rj x=false:=by simp[Rj,c,m]);(have e: (x.kind == 3)=false:=by simp[c]);simp[l,k,j,n,g,f,Ya x,m,p,e];rw[s (b ++ [x])] <;> simp[o,l,k,h];(have p:Rj x=true:=by simp[Rj,m]);(have e: (x.kind == 3)=false:=by simp[c]);(have q: (x.sort != 1)=true:=by simp[m]);simp[l,k,j,n,g,f,Ya x,p,e,q]
def Kk {n y}: ∀{l},YZ n l=some y->y∈l/\y.n=n
 | [],h=>by simp[YZ]at h
 | s:: a,h=>by
  simp only[YZ]at h;split at h;rename_i e;cases h;exact⟨by simp,e⟩;have:=Kk h;exact⟨Tl _ this.1,this.2⟩
def Qke {y} (h:y∈WP):y.k≠0/\(y.n=[110,101,119]->y.l=1):=by
 have:WP.all (fun y=>y.k≠0/\(y.n=[110,101,119]->y.l=1))=true:=by decide
 have:=X0.1 this y h;simpa only[QM]using this
def Al: ∀t b,t.mass < big->call tb 42 [.agg (Qd t)] b=some (.int .i64 (X5 t),b):=by
 refine YC ?_;intro k n s d D b C;have J:=QI (.mk k n s d);have l: ∀x∈(Tm.mk k n s d).kids,∀b,call tb 42 [.agg (Qd x)] b=some (.int .i64 (X5 x),b):=fun x m b=>D x m b (by have:=QY m;simp at *;omega);have v:=fun z h=>Ap (.mk k n s d) b C l z h;have r:=fun z G j p i=>Qk8 (.mk k n s d) b C l d [] z rfl G j p i;simp only[Qd,ZP,Xy]at v r;rw[zcc 42 rfl rfl];by_cases B:k=3;subst B;rcases c:YZ n WP with _ | y;simp[f42C,Qd,Vt,c,X5];obtain⟨u,q⟩:=Kk c;obtain⟨a,w⟩:=Qke u;by_cases e: (d.length:Int) < y.l;simp[f42C,Qd,Vt,c,a,e,Uu,X5];by_cases f:y.m < (d.length:Int);simp[f42C,Qd,Vt,c,a,e,f,Uu,X5];by_cases j:n=[115,107];subst j;simp[f42C,Qd,Vt,c,a,e,f,Uu,X5];rw[r] <;> simp;by_cases p:n=[115,104,107];subst p;simp[f42C,Qd,Vt,c,a,e,f,Uu,X5];rw[r] <;> simp;have E: (n == [115,107])=false:=by simp[j]
 have I: (n == [115,104,107])=false:=by simp[p]
 by_cases i:n=[110,101,119];subst i;have K:=w q;rcases d with _ | ⟨x,A⟩;simp at e;omega;have o: ¬((A.length:Int)+1 < y.l):=by simpa using e
 have g: ¬(y.m < (A.length:Int)+1):=by simpa using f
 by_cases m:x.kind=2;simp[f42C,Qd,Qa,Ya x,Vt,c,a,o,g,Uu,X5,m]at *;refine(v _ ?_).trans ?_ <;> simp;simp[f42C,Qd,Qa,Ya x,Vt,c,a,o,g,Uu,X5,m];have H: (n == [110,101,119])=false:=by simp[i]
 simp[f42C,Qd,Vt,c,a,e,f,Uu,X5,j,p,i,E,I,H];rw[v] <;> simp;simp[f42C,Qd,B,X5]
def thV (t:Tm):Int:=if QR t≠0 then QR t else X5 t
def Mm (t a) (b:t.mass < big):call tb 41 [.agg (Qd t)] a=some (.int .i64 (thV t),a):=by
 rw[zcc 41 rfl rfl];have c:=Tr t a b;have d:=Al t a b;rw[Ya]at *;by_cases h:QR t=0;simp[f41C,c,d,h,thV];simp[f41C,c,h,thV]
end Go.Am
namespace Go.Am
set_option maxRecDepth 20000
def JM {c:Type} {l a b} {x:c} (h:l=a ++ x:: b) (d:l.length < 4611686018427387904):
  l[a.length]? =some x/\IntKind.i64.wrap ((a.length:Int)+1)=(a.length:Int)+1/\(a.length:Int) < (l.length:Int)/\x∈l:=by
 have e:l.length=a.length+ (b.length+1):=by grind
 exact⟨QB h,QC (by omega) (by omega),by omega,by grind⟩
def Ih {t:Tm} (h:t.mass < big):t.kids.length < 4611686018427387904:=by
 have:=QI t;unfold big at h;omega
def Qar {t x:Tm} (h:t.mass < big) (a:x∈t.kids):x.mass < big:=by
 have:=QY a;have:=QI t;omega
def Qe9 (t c) (g:t.mass < big):call tb 56 [.agg (Qd t)] c=some (.int .i64 (OK t),c):=by
 rw[zcc 56 rfl rfl];have b:=Af t.name c (by have:=QI t;unfold big at g;omega);have a: ((8:Int) < t.kids.length)=(8 < t.kids.length):=by grind
 obtain⟨k,n,s,h⟩:=t;simp at b a;unfold OK;simp only[Ux,Ol,Y5,ZP];by_cases e:k=1;subst e;simp[f56C,Qd,b,a];grind;by_cases d:k=2;subst d;simp[f56C,Qd,b,a];grind;by_cases f:k=3;subst f;simp[f56C,Qd,b,a];grind;simp[f56C,Qd,b,a,e,d,f]
def QbE (t c) (p:t.mass < big) (o: ∀x∈t.kids,∀c,call tb 55 [.agg (Qd x)] c=some (.int .i64 (XO x),c)):
  ∀a b g,t.kids=b ++ a->g 1= .bx (Qd t)->g 4= .int .i64 b.length->
  R tb (.loop f55l0) g c (Qi 0 (Qu tb f55r0 (Qz f55 c)))=some (.int .i64 (Vo a),c):=by
 intro a;induction a with | nil=>intro b g e d h;rw[Qc f55l0.eq_1];simp at e;simp[d,h,<- e,f55r0,Vo] | cons x a n=>intro b g e d h;obtain⟨j,l,f,m⟩:=JM e (Ih p);have i:=o x m c;rw[Qc f55l0.eq_1];by_cases k:XO x=0;simp[d,h,j,l,f,i,k,Vo];rw[n (b ++ [x])] <;> simp[d,e];simp[d,h,j,l,f,i,k,Vo]
def QbP: ∀t a,t.mass < big->call tb 55 [.agg (Qd t)] a=some (.int .i64 (XO t),a):=by
 refine YC ?_;intro k n s b g a c;have h:=QbE (.mk k n s b) a c (fun x f a=>g x f a (Qar c f)) b [];have d:=Qe9 (.mk k n s b) a c;rw[zcc 55 rfl rfl];by_cases e:OK (.mk k n s b)=0;simp[f55C,d,e,XO];simp_all;simp[f55C,d,e,XO]
def WW (t a) (b:t.mass < big):call tb 54 [.agg (Qd t)] a=some (.int .i64 (QR t),a):=by
 rw[zcc 54 rfl rfl];have d: (400 < (t.nodes:Int))=(400 < t.nodes):=by grind
 have c: (40 < (t.depth:Int))=(40 < t.depth):=by grind
 simp[f54C,(QbP t a b),(L9 t a b),(QbN t a b),d,c,QR];grind
def KY (a):call tb 129 [] a=some (.sl true 4 (VY WP),a):=by
 rw[zcc 129 rfl rfl];simp[f129,f129C,WP,VY,Uu]
def QgI (n j l) (r:l.length < 1000): ∀a b c,l=b ++ a->c 0= .str n->(∃o,c 3= .sl o 4 (VY l))->c 4= .int .i64 b.length->
  R tb (.loop f128l0) c j (Qi 0 (Qu tb f128r0 (Qz f128 j)))=some (.int .i64 (match YZ n a with | some y=>y.k | none=>0),j):=by
 intro a;induction a with | nil=>intro b c d h ⟨o,g⟩ e;rw[Qc f128l0.eq_1];simp at d;rw[<- d]at e;simp[g,e,f128r0,YZ] | cons x a q=>intro b c d h ⟨o,g⟩ e;have p:=J1 d;obtain⟨_,k,f,_⟩:=JM d (by omega);rw[Qc f128l0.eq_1];by_cases m:x.n=n;simp[h,g,e,p,k,f,Uu,m,YZ];(have i: (x.n == n)=false:=by grind);simp[h,g,e,p,k,f,Uu,m,i,YZ];rw[q (b ++ [x])] <;> simp[h,g,d]
def ET (n a):call tb 128 [.str n] a=some (.int .i64 (match YZ n WP with | some y=>y.k | none=>0),a):=by
 rw[zcc 128 rfl rfl];simp[f128C,KY];rw[QgI n a WP (by decide) WP []] <;> simp
def QiJ (t i l) (r:l.length < 1000): ∀a b c,l=b ++ a->c 1= .bx (Qd t)->(∃o,c 3= .sl o 4 (VY l))->c 4= .int .i64 b.length->
  R tb (.loop f130l0) c i (Qi 0 (Qu tb f130r0 (Qz f130 i)))=
   some (.bool (match YZ t.name a with | some y=>decide (y.l<=t.kids.length) && decide (t.kids.length<=y.m) | none=>false),i):=by
 intro a;induction a with | nil=>intro b c d h ⟨o,g⟩ e;rw[Qc f130l0.eq_1];simp at d;rw[<- d]at e;simp[g,e,f130r0,YZ] | cons x a q=>intro b c d h ⟨o,g⟩ e;have n:=J1 d;obtain⟨_,k,f,_⟩:=JM d (by omega);rw[Qc f130l0.eq_1];by_cases m:x.n=t.name;by_cases p:x.l<=t.kids.length <;> simp[h,g,e,n,k,f,Uu,m,YZ,p];(have j: (x.n == t.name)=false:=by grind);simp[h,g,e,n,k,f,Uu,m,j,YZ];rw[q (b ++ [x])] <;> simp[h,g,d]
def Qh9 (t a):call tb 130 [.agg (Qd t)] a=
  some (.bool (match YZ t.name WP with | some y=>decide (y.l<=t.kids.length) && decide (t.kids.length<=y.m) | none=>false),a):=by
 rw[zcc 130 rfl rfl];simp[f130C,KY];rw[QiJ t a WP (by decide) WP []] <;> simp
def QbI (t h) (i:t.mass < big): ∀a b d,t.kids=b ++ a->d 1= .bx (Qd t)->d 3= .int .i64 b.length->
  R tb (.loop f131l0) d h (Qi 0 (Qu tb f131r0 (Qz f131 h)))=some (.bool (!(a.any Rj)),h):=by
 intro a;induction a with | nil=>intro b d c e g;rw[Qc f131l0.eq_1];simp at c;simp[e,g,<- c,f131r0] | cons x a k=>intro b d c e g;obtain⟨l,j,f,o⟩:=JM c (Ih i);rw[Qc f131l0.eq_1];by_cases m:x.kind=3 <;> by_cases n:x.sort=1 <;> simp[e,g,l,j,f,m,n,Rj];rw[k (b ++ [x])] <;> simp[e,c]
def QbQ (t b) (e:t.mass < big) (g:t.name=[110,101,119]->t.kids≠[]):call tb 131 [.agg (Qd t)] b=
  some (.bool (if t.name=[110,101,119]then decide (t.kids.head?.map Tm.kind=some 2)else !(t.kids.any Rj)),b):=by
 rw[zcc 131 rfl rfl];by_cases d:t.name=[110,101,119];rcases c:t.kids with _ | ⟨x,f⟩;grind;simp[f131C,d,c,Ya t,Qa];have a: (t.name == [110,101,119])=false:=by grind
 simp[f131C,d,a];rw[QbI t b e t.kids []] <;> simp
def DK (t c) (p:t.mass < big) (o: ∀x∈t.kids,∀c,call tb 127 [.agg (Qd x)] c=some (.int .i64 (X5 x),c)):
  ∀a b g,t.kids=b ++ a->g 1= .bx (Qd t)->g 4= .int .i64 b.length->
  R tb (.loop f127l0) g c (Qi 0 (Qu tb f127r0 (Qz f127 c)))=some (.int .i64 (SU a),c):=by
 intro a;induction a with | nil=>intro b g e d h;rw[Qc f127l0.eq_1];simp at e;simp[d,h,<- e,f127r0,SU] | cons x a n=>intro b g e d h;obtain⟨j,l,f,m⟩:=JM e (Ih p);have i:=o x m c;rw[Qc f127l0.eq_1];by_cases k:X5 x=0;simp[d,h,j,l,f,i,k,SU];rw[n (b ++ [x])] <;> simp[d,e];simp[d,h,j,l,f,i,k,SU]
def Qkf {y} (h:y∈WP): (y.k=2)=(y.n=[115,107]\/y.n=[115,104,107]\/y.n=[110,101,119]):=by
 have:WP.all (fun y=>decide ((y.k=2)=(y.n=[115,107]\/y.n=[115,104,107]\/y.n=[110,101,119])))=true:=by simp only[TL];decide
 grind
def DO: ∀t i,t.mass < big->call tb 127 [.agg (Qd t)] i=some (.int .i64 (X5 t),i):=by
 refine YC ?_;intro k n s f O i A;have G:=DK (.mk k n s f) i A (fun x J i=>O x J i (Qar A J)) f [];have l:=Qh9 (.mk k n s f) i;have z:=QbQ (.mk k n s f) i A;have b:=ET n i;simp only[Y5,ZP]at l z;rw[zcc 127 rfl rfl];by_cases E:k=3;subst E;simp only[Qd]at l z G;rcases j:YZ n WP with _ | y;rw[j]at b;simp[f127C,Qd,b,j,X5];obtain⟨q,B⟩:=Kk j;obtain⟨o,L⟩:=Qke q;have K:=Qkf q;rw[j]at b l;simp only at b l;by_cases c:y.l<=f.length/\(f.length:Int)<=y.m;have v:=c.1;have w:=c.2;have r: ¬(f.length:Int) < y.l:=by omega
 have u: ¬y.m < (f.length:Int):=by omega
 have h:=z (fun e=>by grind);rw[B]at K;have N:=fun M=>G M rfl;by_cases C:n=[115,107];subst C;have g:y.k=2:=by grind
 simp at h;rcases Bool.eq_false_or_eq_true (f.any Rj)with m | m <;> simp[f127C,Qd,b,g,l,v,w,r,u,h,X5,j,m];simp_all;by_cases H:n=[115,104,107];subst H;have g:y.k=2:=by grind
 simp at h;rcases Bool.eq_false_or_eq_true (f.any Rj)with m | m <;> simp[f127C,Qd,b,g,l,v,w,r,u,h,X5,j,m];simp_all;by_cases I:n=[110,101,119];subst I;have g:y.k=2:=by grind
 simp at h;by_cases m: ∃a,f.head?=some a/\a.kind=2 <;> simp[f127C,Qd,b,g,l,v,w,r,u,h,X5,j,m];simp_all;have g: ¬y.k=2:=by grind
 have D: (y.k == 2)=false:=by grind
 simp[f127C,Qd,b,g,o,l,v,w,r,u,X5,j,C,H,I];simp_all;have d: (f.length:Int) < y.l\/y.m < f.length:=by omega
 have e: (decide (y.l<=f.length) && decide ((f.length:Int)<=y.m))=false:=by grind
 have p:call tb 130 [.agg [.int .i64 3,.str n,.int .i64 s,.sl false 4 (Qa f)]] i=some (.bool (decide (y.l<=(f.length:Int)) && decide ((f.length:Int)<=y.m)),i):=l;rw[e]at p;simp[f127C,Qd,b,j,o,p,d,X5];simp[f127C,Qd,E,X5]
def JO (t a) (b:t.mass < big):call tb 126 [.agg (Qd t)] a=some (.int .i64 (thV t),a):=by
 have c:=WW t a b;have d:=DO t a b;rw[zcc 126 rfl rfl];rw[Ya]at *;by_cases h:QR t=0;simp[f126C,c,d,h,thV];simp[f126C,c,h,thV]
end Go.Am
namespace Go.Am
set_option maxRecDepth 20000
def BX: ∀{a b},Vl a b=0->a=b:=by
 intro a b h;unfold Vl at h;split at h;simp at h;split at h;rename_i c;exact UG.1 c;simp at h
mutual
theorem Z4: ∀(t u:Tm),Qm t u=0->t=u
 | .mk k n s ks,.mk k' n' s' ks',h=>by
  rw[Ob,Oo]at h;obtain⟨h1,h2⟩:=h;unfold hdT at h1;simp only[Oo,MC,Ux,Y5,Ol,ZP]at h1 h2;obtain⟨_,h3,h4,h5,h6⟩:=h1;have e1:=BX h4;have e2:=Ay ks ks' (by omega) h2;rw[h3,e1,h5,e2]
theorem Ay: ∀(ts us:List Tm),ts.length=us.length->WO ts us=0->ts=us
 | [],[],_,_=>rfl
 | [],_:: _,h,_=>by simp at h
 | _:: _,[],h,_=>by simp at h
 | t:: ts,u:: us,h,h2=>by
  rw[WO,Oo]at h2;rw[Z4 t u h2.1,Ay ts us (by simpa using h) h2.2]
end
def Vm {t u}:Qm t u=0↔t=u:=⟨Z4 t u,fun h=>h▸Xc t⟩
end Go.Am
namespace Go.Am
set_option maxRecDepth 20000
def isB (t:Tm) (n:Zq):Bool:=decide (t.kind=3) && (t.name == n)
def RN {t n}:isB t n=true↔t.kind=3/\t.name=n:=by simp[isB]
def RG (t n a):call tb 71 [.agg (Qd t),.str n] a=some (.bool (isB t n),a):=by
 rw[zcc 71 rfl rfl];by_cases h:t.kind=3 <;> simp[f71,f71C,isB,h]
def Ww (t n a):call tb 132 [.agg (Qd t),.str n] a=some (.bool (isB t n),a):=by
 rw[zcc 132 rfl rfl];by_cases h:t.kind=3 <;> simp[f132,f132C,isB,h]
end Go.Am
namespace Go.Am
set_option maxRecDepth 20000
def RF (n a o b) (d:a.length<=1000):call tb 120 [.str n,.sl o 4 (Qa a)] b=some (.agg (Qd (.mk 3 n 0 a)),b):=by
 rw[zcc 120 rfl rfl];have c:a.length*56<=140737488355328:=by omega
 simp[f120,f120C,Sg,Wn,c]
end Go.Am
