/-
  SeatRead.
-/
import Derived.Test.YthagbooipdejlaaGreatDoorG10
import Derived.Test.YthagbooipdejlaaGreatDoorG23
import Derived.Test.YthagbooipdejlaaGreatDoorChecked
set_option linter.all false
namespace Go.Proofs.YthagbooipdejlaaGreatDoor
open Go.Am
def Qrt:List TypeId:=[3,9,4,5,25,22,37,43,23]
theorem IP:Gi Tryz.prog Qrt=true:=by kernel_rfl
theorem NJ {α:Type} {f:α→List AV}: ∀{xs:List (List AV)},(∀x∈xs,∃a,x=f a)→∃l:List α,xs=l.map f
 | [],_=>⟨[],rfl⟩
 | x:: xs,h=>by
  obtain⟨a,ha⟩:=h x (by simp);obtain⟨l,hl⟩:=NJ (xs:=xs) fun y hy=>h y (by simp[hy]);exact⟨a:: l,by simp[ha,hl]⟩
theorem Hu {α:Type} {f:α→List AV} {q:α→Prop}: ∀{xs:List (List AV)},(∀x∈xs,∃a,x=f a∧q a)→∃l:List α,xs=l.map f∧∀a∈l,q a
 | [],_=>⟨[],rfl,by simp⟩
 | x:: xs,h=>by
  obtain⟨a,ha,hq⟩:=h x (by simp);obtain⟨l,hl,hql⟩:=Hu (xs:=xs) fun y hy=>h y (by simp[hy]);refine⟨a:: l,by simp[ha,hl],fun b hb=> ?_⟩;rcases List.mem_cons.1 hb with rfl | hb
  ·exact hq
  ·exact hql b hb
theorem O7 {B n:Nat} {avs:List AV} (h:Shp B Tryz.prog n 3 avs): ∃i,avs=[.int .i64 i]:=by
 cases n with
 | zero=>simp[Shp]at h
 | succ n=>
  simp only[Shp,Tryz.underlying3]at h;obtain⟨i,h1,_⟩:=h;exact⟨i,h1⟩
theorem Qkm {B n:Nat} {avs:List AV} (h:Shp B Tryz.prog n 9 avs): ∃s:List UInt8,avs=[.str s]∧s.length≤B:=by
 cases n with
 | zero=>simp[Shp]at h
 | succ n=>
  simp only[Shp,Tryz.underlying9]at h;exact h
theorem BF:Tryz.prog.cellsOf 25=4:=by kernel_rfl
theorem QhB:Tryz.prog.bytesOf 25=56:=by kernel_rfl
theorem KH {B:Nat}: ∀(n:Nat) (avs:List AV),Shp B Tryz.prog n 25 avs→∃t:Tm,avs=Qf t:=by
 intro n
 induction n using Nat.strongRecOn with
 | ind n ih=>
  intro avs h;cases n with
  | zero=>simp[Shp]at h
  | succ n=>
   simp only[Shp,Tryz.underlying25,F2]at h;obtain⟨p1,q1,rfl,h1,p2,q2,rfl,h2,p3,q3,rfl,h3,p4,q4,rfl,h4,rfl⟩:=h;obtain⟨k,rfl⟩:=O7 h1;obtain⟨s,rfl,_⟩:=Qkm h2;obtain⟨so,rfl⟩:=O7 h3;cases n with
   | zero=>simp[Shp]at h4
   | succ n=>
    simp only[Shp,Tryz.underlying22]at h4;obtain⟨xs,rfl,_,hx⟩:=h4;obtain⟨l,rfl⟩:=NJ (f:=Qf) (xs:=xs) fun x hxx=>ih n (by omega) x (hx x hxx);exact⟨.mk k s so l,by simp[Qf,YF,BF]⟩
theorem QeE {B n:Nat} {avs:List AV} (h:Shp B Tryz.prog n 22 avs): ∃l:List Tm,avs=[.sl false 4 (Qb l)]∧l.length*56≤B:=by
 cases n with
 | zero=>simp[Shp]at h
 | succ n=>
  simp only[Shp,Tryz.underlying22]at h;obtain⟨xs,rfl,hb,hx⟩:=h;obtain⟨l,rfl⟩:=NJ (f:=Qf) (xs:=xs) fun x hxx=>KH n x (hx x hxx);rw[QhB]at hb;exact⟨l,by rw[YF,BF],by simpa using hb⟩
theorem QnD:Tryz.prog.cellsOf 3=1:=by kernel_rfl
theorem Qnx:Tryz.prog.bytesOf 3=8:=by kernel_rfl
theorem Cc {B n:Nat} {avs:List AV} (h:Shp B Tryz.prog n 37 avs): ∃l:List Int,avs=[.sl false 1 (Xu l)]∧l.length*8≤B:=by
 cases n with
 | zero=>simp[Shp]at h
 | succ n=>
  simp only[Shp,Tryz.underlying37]at h;obtain⟨xs,rfl,hb,hx⟩:=h;obtain⟨l,rfl⟩:=NJ (f:=fun i:Int=>[AV.int .i64 i]) (xs:=xs) fun x hxx=>O7 (hx x hxx);rw[Qnx]at hb;exact⟨l,by rw[QnD];rfl,by simpa using hb⟩
theorem QiU:Tryz.prog.cellsOf 43=8:=by kernel_rfl
theorem QhC:Tryz.prog.bytesOf 43=120:=by kernel_rfl
theorem Qkl {B n:Nat} {avs:List AV} (h:Shp B Tryz.prog n 43 avs): ∃d:Ded,avs=ZL d∧d.a.length*8≤B∧d.c.length*8≤B:=by
 cases n with
 | zero=>simp[Shp]at h
 | succ n=>
  simp only[Shp,Tryz.underlying43,F2]at h;obtain⟨p1,q1,rfl,h1,p2,q2,rfl,h2,p3,q3,rfl,h3,p4,q4,rfl,h4,p5,q5,rfl,h5,rfl⟩:=h;obtain⟨r,rfl⟩:=O7 h1;obtain⟨m,rfl⟩:=O7 h2;obtain⟨a,rfl,ha⟩:=Cc h3;obtain⟨c,rfl,hc⟩:=Cc h4;obtain⟨t,rfl⟩:=KH _ _ h5;exact⟨⟨r,m,a,c,t⟩,by simp[ZL],ha,hc⟩
theorem QgM {B n:Nat} {avs:List AV} (h:Shp B Tryz.prog n 23 avs): ∃l:List Ded,avs=[.sl false 8 (ZQ l)]∧l.length*120≤B∧∀d∈l,d.a.length*8≤B∧d.c.length*8≤B:=by
 cases n with
 | zero=>simp[Shp]at h
 | succ n=>
  simp only[Shp,Tryz.underlying23]at h;obtain⟨xs,rfl,hb,hx⟩:=h;obtain⟨l,rfl,hl⟩:=Hu (f:=ZL) (q:=fun d=>d.a.length*8≤B∧d.c.length*8≤B) (xs:=xs) fun x hxx=>Qkl (hx x hxx);rw[QhC]at hb;exact⟨l,by rw[QiU];rfl,by simpa using hb,hl⟩
section
open Go.RowKit Go.ChangeShapes Go.WideShapes
variable {P:Program} {num:Nat→Option Nat} {W:World} {H:Type} {enc:TypeId×Value→H} {S:List TypeId} {base b0:Nat} {spare:Nat→Bool} {held:Bool} {r:Reach}
theorem IY [Dr] {B:Nat} (hS:Gi P S=true) {t e:TypeId} (ht:t∈S) (hu:P.underlying t=some (.slice e)) {v:Value} {d:DataW H} {p:List MemPlace} (hv:Value.okWide P W r b0 t v)
  (h:DataW.Trod enc P W base spare held t v d p) (hw: ∀n∈d.weights P t,n≤B): ∃n xs,Shp B P n t [.sl false (P.cellsOf e) xs]∧Qg num [] W (mW W) (.sl false (P.cellsOf e) xs) v:=by
 obtain⟨a,len,cap,rfl⟩:=okWide_slice hu hv;obtain⟨fuel,hf⟩:=h;obtain⟨avs,h1,h2,h3,h4⟩:=Ic (num:=num) (β:=[]) hS fuel t _ _ ht hf hw;cases fuel with
 | zero=>simp[Shp]at h1
 | succ n=>
  have h1':=h1;simp only[Shp,hu]at h1;obtain⟨xs,rfl,hb,hx⟩:=h1;refine⟨n+1,xs,h1',?_⟩;simp only[YX]at h4;obtain⟨⟨u,h5,h6⟩,_⟩:=h4;simp[Value.cells]at h5;subst h5;exact h6.2
end
end Go.Proofs.YthagbooipdejlaaGreatDoor
