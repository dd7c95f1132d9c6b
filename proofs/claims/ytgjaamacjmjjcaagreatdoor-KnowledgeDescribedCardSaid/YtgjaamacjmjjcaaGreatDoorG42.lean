/-
  Kn88.
-/
import Derived.Test.YtgjaamacjmjjcaaGreatDoorG27
import Derived.Test.YtgjaamacjmjjcaaGreatDoorG16
set_option linter.all false
open Go.Am.F
namespace Go.Am
set_option maxRecDepth 20000
def QgJ (l:List VO):Bool:=l.all (fun b=>decide (b.length<=12)) && decide (l.length<=5)
def QuT (l) (x:l.length < 4611686018427387904) (B):
  ∀a d o h f,l=d ++ a->f 0= .sl o 1 (Vm l)->f 5= .sl h 1 (Vm l)->f 6= .int .i64 l.length->f 7= .int .i64 d.length->
  R tb (.loop f620l0) f B (Qh 0 (Qs tb f620r0 (QA f620 B)))=some (.bool (a.all (fun b=>decide (b.length<=12)) && decide (l.length<=5)),B):=by
 have r: (Vm l).length=l.length:=by simp[Vm]
 intro a;induction a with | nil=>intro d o h f g s i n j;simp only[Qy]at g;rw[<- g]at j;(have v: (l.length<=5)↔(l.length:Int)<=5:=by omega);generalize Vm l=E at *;rw[Qb f620l0.eq_1];simp[s,i,n,j,r,v,f620r0] | cons b a u=>intro d o h f g s i n j;have w:=QD g;have p:=wr1 d.length (by omega);have m:=QF g;(have k: (Vm l)[d.length]? =some [.sl false 1 (V6 b)]:=by simp[Vm,(Qv g)]);(have q: (V6 b).length=b.length:=by simp[V6]);generalize Vm l=E at *;generalize V6 b=y at *;rw[Qb f620l0.eq_1];by_cases c:b.length<=12;(have t: ¬(12:Int) < (b.length:Int):=by omega);(have e: ((b:: a).all (fun b=>decide (b.length<=12)))=a.all (fun b=>decide (b.length<=12)):=by simp[c]);rw[e];simp[-getElem?_pos,Ql,i,n,j,m,p,k,q,t];rw[(fun o h f=>u (d ++ [b]) o h f (by rw[g];simp)) o h] <;> simp[s,i,n];(have t: (12:Int) < (b.length:Int):=by omega);(have e: ((b:: a).all (fun b=>decide (b.length<=12)))=false:=by simp[c]);rw[e];simp[-getElem?_pos,Ql,i,n,j,m,p,k,q,t]
def Qpb (l) (c:l.length < 4611686018427387904) (o B):call tb 620 [.sl o 1 (Vm l)] B=some (.bool (QgJ l),B):=by
 have a: (Vm l).length=l.length:=by simp[Vm]
 unfold QgJ;rw[zcc 620 rfl rfl];simp[f620C];have b:=(fun d=>QuT l c B l [] false false d rfl);simp only[Xc]at b;rw[b] <;> simp[a]
def Lv (l b u) (v:call tb 602 [] []=some (.bool true,[])) (w:l.length < 4611686018427387904) (E: ∀x∈l,∀n∈x,n < 256) (H: ∀n∈b,n < 256):
  call tb 619 [.sl false 1 (Vm l),.sl false 1 (V6 b),.bool u] []=some (.bool true,[]):=by
 have a:=fun o=>Qpb l w o [];have i: (V6 b).length=b.length:=by simp[V6]
 rw[zcc 619 rfl rfl];cases s:QgJ l;rw[s]at a;generalize Vm l=B at *;generalize V6 b=A at *;simp[f619C,v,a];rw[s]at a;by_cases c:b.length<=12;have z: ¬(12:Int) < (b.length:Int):=by omega
 simp only[QgJ,Qu,QM]at s;obtain⟨k,q,I,r⟩:=Qoh l E u [] (by omega) false;obtain⟨t,h,G⟩:=Qc5 b H u false [];have P:min l.length 8<=5:=by omega
 have D:=KJ (l:=k) (M:=13200) fun x g=>(r x g).1;have C:k.length*13200<=5*13200:=YE _ (by omega);have L:=G.1;have m:KI (k ++ [t]):=by refine⟨by simp;omega,.inr (by simp;omega),?_,fun x g=> ?_⟩;rw[Y3];simp only[Qw];omega;rcases Zp.1 g with g | g;have:=(r x g).1;omega;rw[Vz.1 g];omega
 have f:=I5 k t m false [];have e:=I2 k t m false [];obtain⟨R,j⟩:=Qdu k t m false [];obtain⟨Q,p⟩:=Qdy k t m false [];have y:=fun o J=>F4 m [] o J;unfold dvA at f e;generalize Qa (MF k t)=O at *;generalize Qa k=N at *;generalize Z4 k [t]=K at *;generalize (decide (K=0) && Lq k t)=d at *;generalize Vm l=B at *;generalize V6 b=A at *;simp[f619C,v,a,i,z,q,h,Qc,f,e,j,p,y];have z: (12:Int) < (b.length:Int):=by omega
 generalize Vm l=B at *;generalize V6 b=A at *;simp[f619C,v,a,i,z]
end Go.Am
