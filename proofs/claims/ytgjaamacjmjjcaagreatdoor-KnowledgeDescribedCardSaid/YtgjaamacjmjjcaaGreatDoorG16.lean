/-
  Rc44.
-/
import Derived.Test.YtgjaamacjmjjcaaGreatDoorG15
set_option linter.all false
open Go.Am.F
namespace Go.Am
set_option maxRecDepth 20000
def Qoi (b) (i: ∀n∈b,n < 256) (f) (g): ∀(j c d:Nat) o,d+j=4->c+nK j<=1000->
  Ke g c (nK j) (nM j) f (call tb 283 [.sl o 1 (V6 b),.int .i64 c,.int .i64 d,.bool f] g):=by
 intro j;induction j with | zero=>intro c d o r h;have:=QaX 0;rcases ZI c b.length with e | e;exact La b c b[c] d f o g 0 (by omega) (by omega) (.inl ⟨e,Za e⟩) (i _ (V3 e)) (.inl (by omega));exact La b c 0 d f o g 0 (by omega) (by omega) (.inr ⟨e,rfl⟩) (by omega) (.inl (by omega)) | succ j p=>intro c d o r h;have:=QaX (j+1);rcases ZI c b.length with e | e;have l:=Za e;have k:=i _ (V3 e);by_cases m:b[c] % 3=0;exact La b c b[c] d f o g (j+1) (by omega) (by omega) (.inl ⟨e,l⟩) k (.inr m);(exact Ql5 b c b[c] d f o g j h (by omega) l k m fun a q=>by have:=p a (d+1) false (by omega) q;simpa using this);exact La b c 0 d f o g (j+1) (by omega) (by omega) (.inr ⟨e,rfl⟩) (by omega) (.inr rfl)
def DT (fr:Bool) (t:Tm):Prop:=t.mass<=13200/\Y6 t=0
def QwK (bs:Qr) (fr:Bool) (r:Out):Prop:=∃t:Tm,r=some (.agg (Qd t),bs)/\DT fr t
def Qc5 (b) (u: ∀n∈b,n < 256) (f o d):QwK d f (call tb 282 [.sl o 1 (V6 b),.bool f] d):=by
 obtain⟨t,m,s,z,x,w,y⟩:=Qoi b u f d 3 0 1 false rfl (by decide);have e:call tb 283 [.sl false 1 (V6 b),.int .i64 0,.int .i64 1,.bool f] d=some (.tup [.agg (Qd t),.int .i64 m],d):=s;have r:t.mass<=460:=w;have g:=Qc2 t d (by unfold big;omega);have v:=KP t;have q:=Qc1 (YY t).1 d (by omega);have j:=EG d;simp only[ZB]at g;rw[zcc 282 rfl rfl];have c:DT f (.mk 2 [110,97] 2 []):=⟨by decide,by decide⟩;by_cases a: (YY t).2=0;cases p:Tu (YY t).1;refine⟨_,?_,c⟩;simp[f282C,e,g,q,j,a,p,Tk,Qa];refine⟨(YY t).1,?_,v,(by unfold YY at a ⊢;by_cases k:thV t=0;rw[Qe (by simpa using k)]at a ⊢;by_cases i: (Z8 t).2=0;rw[Qe (by simpa using i)]at a ⊢;by_cases h:QZ (Z8 t).1=0;rw[Qe (by simpa using h)];exact(Xu h).1;rw[Qg h]at a;exact absurd a h;rw[Qg i]at a;exact absurd a i;rw[Qg k]at a;exact absurd a k)⟩;simp[f282C,e,g,q,j,a,p];refine⟨_,?_,c⟩;simp[f282C,e,g,j,a,Tk,Qa]
def Vm (l:List VO):Qr:=l.map fun b=>[AV.sl false 1 (V6 b)]
def Ik (l): (Vm l).length=l.length:=by simp[Vm]
def Qis {l} {i:Nat} {b} (h:l[i]? =some b): (Vm l)[i]? =some [AV.sl false 1 (V6 b)]:=by simp[Vm,h]
def Qtc (bs:Qr) (fr:Bool) (n:Nat) (r:Out):Prop:=∃l:Qj,r=some (.sl false 4 (Qa l),bs)/\l.length<=n/\∀t∈l,DT fr t
def QhV (l) (D: ∀b∈l,∀n∈b,n < 256) (q s) (E:l.length < 1000000):
  ∀c a d o f,l=a ++ c->d.length=a.length->a.length<=8->(∀t∈d,DT q t)->f 0= .sl o 1 (Vm l)->f 1= .bool q->f 5= .sl true 4 (Qa d)->f 6= .int .i64 a.length->
  Qtc s q (min l.length 8) (R tb (.loop f281l0) f s (Qh 0 (Qs tb f281r0 (QA f281 s)))):=by
 intro c;induction c with | nil=>intro a d o f g w A r j v p k;simp only[Qy]at g;subst g;rw[Qb f281l0.eq_1];refine⟨d,?_,by omega,r⟩;simp[j,p,k,Ik,f281r0] | cons x c G=>intro a d o f g w A r j v p k;have B:=QD g;have h:=QF g;rw[Qb f281l0.eq_1];by_cases H:a.length=8;refine⟨d,?_,by omega,r⟩;(have e: (a.length:Int)=8:=by omega);rw[e]at k h;simp[j,p,k,h,Ik,f281r0];(have m: (a.length:Int) < 8:=by omega);obtain⟨t,C,u⟩:=Qc5 x (D x (by rw[g];simp)) q false s;have z: (d.length+1)*56<=140737488355328:=X7 (by omega);simp[j,v,p,k,(Qis (Qv g)),h,m,(wr1 a.length (by omega)),C,z,Ik,ZH,QQ];apply(fun f=>G (a ++ [x]) (d ++ [t]) o f (by rw[g];simp) (by simp[w]) (by simp;omega) (fun y i=>by rcases Zp.1 i with i | i;exact r y i;simp at i;subst i;exact u)) <;> simp[j,v]
def Qoh (l) (e: ∀b∈l,∀n∈b,n < 256) (a c) (d:l.length < 1000000) (o):Qtc c a (min l.length 8) (call tb 281 [.sl o 1 (Vm l),.bool a] c):=by
 rw[zcc 281 rfl rfl];simp[f281C];apply(fun f=>QhV l e a c d l [] [] false f rfl rfl (by simp) (by simp)) <;> simp[Qa]
end Go.Am
