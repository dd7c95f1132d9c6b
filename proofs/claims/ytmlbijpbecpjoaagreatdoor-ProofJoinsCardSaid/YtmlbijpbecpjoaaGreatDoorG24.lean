/-
  SeatRead.
-/
import Derived.Test.YtmlbijpbecpjoaaGreatDoorG10
import Derived.Test.YtmlbijpbecpjoaaGreatDoorG23
import Derived.Test.YtmlbijpbecpjoaaGreatDoorChecked
set_option linter.all false
namespace Go.Proofs.YtmlbijpbecpjoaaGreatDoor
open Go.Am
def Qqq:List TypeId:=[3,9,4,5,35,22,33,37,23,25]
theorem BP:HP Tryz.prog Qqq=true:=by kernel_rfl
theorem NB {α:Type} {f:α→List AV}: ∀{xs:List (List AV)},(∀x∈xs,∃a,x=f a)→∃l:List α,xs=l.map f
 | [],_=>⟨[],rfl⟩
 | x:: xs,h=>by
  obtain⟨a,ha⟩:=h x (by simp);obtain⟨l,hl⟩:=NB (xs:=xs) fun y hy=>h y (by simp[hy]);exact⟨a:: l,by simp[ha,hl]⟩
theorem I7 {α:Type} {f:α→List AV} {q:α→Prop}: ∀{xs:List (List AV)},(∀x∈xs,∃a,x=f a∧q a)→∃l:List α,xs=l.map f∧∀a∈l,q a
 | [],_=>⟨[],rfl,by simp⟩
 | x:: xs,h=>by
  obtain⟨a,ha,hq⟩:=h x (by simp);obtain⟨l,hl,hql⟩:=I7 (xs:=xs) fun y hy=>h y (by simp[hy]);refine⟨a:: l,by simp[ha,hl],fun b hb=> ?_⟩;rcases List.mem_cons.1 hb with rfl | hb
  ·exact hq
  ·exact hql b hb
theorem O0 {B n:Nat} {avs:List AV} (h:Shp B Tryz.prog n 3 avs): ∃i,avs=[.int .i64 i]:=by
 cases n with
 | zero=>simp[Shp]at h
 | succ n=>
  simp only[Shp,Tryz.underlying3]at h;obtain⟨i,h1,_⟩:=h;exact⟨i,h1⟩
theorem Qjt {B n:Nat} {avs:List AV} (h:Shp B Tryz.prog n 9 avs): ∃s:List UInt8,avs=[.str s]∧s.length≤B:=by
 cases n with
 | zero=>simp[Shp]at h
 | succ n=>
  simp only[Shp,Tryz.underlying9]at h;exact h
theorem Bb:Tryz.prog.cellsOf 35=4:=by kernel_rfl
theorem QgU:Tryz.prog.bytesOf 35=56:=by kernel_rfl
theorem DM {B:Nat}: ∀(n:Nat) (avs:List AV),Shp B Tryz.prog n 35 avs→∃t:Tm,avs=Qf t:=by
 intro n
 induction n using Nat.strongRecOn with
 | ind n ih=>
  intro avs h;cases n with
  | zero=>simp[Shp]at h
  | succ n=>
   simp only[Shp,Tryz.underlying35,JV]at h;obtain⟨p1,q1,rfl,h1,p2,q2,rfl,h2,p3,q3,rfl,h3,p4,q4,rfl,h4,rfl⟩:=h;obtain⟨k,rfl⟩:=O0 h1;obtain⟨s,rfl,_⟩:=Qjt h2;obtain⟨so,rfl⟩:=O0 h3;cases n with
   | zero=>simp[Shp]at h4
   | succ n=>
    simp only[Shp,Tryz.underlying22]at h4;obtain⟨xs,rfl,_,hx⟩:=h4;obtain⟨l,rfl⟩:=NB (f:=Qf) (xs:=xs) fun x hxx=>ih n (by omega) x (hx x hxx);exact⟨.mk k s so l,by simp[Qf,YW,Bb]⟩
theorem Qd5 {B n:Nat} {avs:List AV} (h:Shp B Tryz.prog n 22 avs): ∃l:List Tm,avs=[.sl false 4 (Qb l)]∧l.length*56≤B:=by
 cases n with
 | zero=>simp[Shp]at h
 | succ n=>
  simp only[Shp,Tryz.underlying22]at h;obtain⟨xs,rfl,hb,hx⟩:=h;obtain⟨l,rfl⟩:=NB (f:=Qf) (xs:=xs) fun x hxx=>DM n x (hx x hxx);rw[QgU]at hb;exact⟨l,by rw[YW,Bb],by simpa using hb⟩
theorem QmK:Tryz.prog.cellsOf 3=1:=by kernel_rfl
theorem QmE:Tryz.prog.bytesOf 3=8:=by kernel_rfl
theorem DL {B n:Nat} {avs:List AV} (h:Shp B Tryz.prog n 33 avs): ∃l:List Int,avs=[.sl false 1 (Q7 l)]∧l.length*8≤B:=by
 cases n with
 | zero=>simp[Shp]at h
 | succ n=>
  simp only[Shp,Tryz.underlying33]at h;obtain⟨xs,rfl,hb,hx⟩:=h;obtain⟨l,rfl⟩:=NB (f:=fun i:Int=>[AV.int .i64 i]) (xs:=xs) fun x hxx=>O0 (hx x hxx);rw[QmE]at hb;exact⟨l,by rw[QmK];rfl,by simpa using hb⟩
theorem QhZ:Tryz.prog.cellsOf 37=8:=by kernel_rfl
theorem QgV:Tryz.prog.bytesOf 37=120:=by kernel_rfl
theorem Qjs {B n:Nat} {avs:List AV} (h:Shp B Tryz.prog n 37 avs): ∃d:Ded,avs=QK d∧d.a.length*8≤B∧d.c.length*8≤B:=by
 cases n with
 | zero=>simp[Shp]at h
 | succ n=>
  simp only[Shp,Tryz.underlying37,JV]at h;obtain⟨p1,q1,rfl,h1,p2,q2,rfl,h2,p3,q3,rfl,h3,p4,q4,rfl,h4,p5,q5,rfl,h5,rfl⟩:=h;obtain⟨r,rfl⟩:=O0 h1;obtain⟨m,rfl⟩:=O0 h2;obtain⟨a,rfl,ha⟩:=DL h3;obtain⟨c,rfl,hc⟩:=DL h4;obtain⟨t,rfl⟩:=DM _ _ h5;exact⟨⟨r,m,a,c,t⟩,by simp[QK],ha,hc⟩
theorem DK {B n:Nat} {avs:List AV} (h:Shp B Tryz.prog n 23 avs): ∃l:List Ded,avs=[.sl false 8 (Qz l)]∧l.length*120≤B∧∀d∈l,d.a.length*8≤B∧d.c.length*8≤B:=by
 cases n with
 | zero=>simp[Shp]at h
 | succ n=>
  simp only[Shp,Tryz.underlying23]at h;obtain⟨xs,rfl,hb,hx⟩:=h;obtain⟨l,rfl,hl⟩:=I7 (f:=QK) (q:=fun d=>d.a.length*8≤B∧d.c.length*8≤B) (xs:=xs) fun x hxx=>Qjs (hx x hxx);rw[QgV]at hb;exact⟨l,by rw[QhZ];rfl,by simpa using hb,hl⟩
theorem Qju {B n:Nat} {avs:List AV} (h:Shp B Tryz.prog n 25 avs): ∃a b:List Ded,avs=[.sl false 8 (Qz a),.sl false 8 (Qz b)]∧a.length*120≤B∧b.length*120≤B∧(∀d∈a,d.a.length*8≤B∧d.c.length*8≤B)∧∀d∈b,d.a.length*8≤B∧d.c.length*8≤B:=by
 cases n with
 | zero=>simp[Shp]at h
 | succ n=>
  simp only[Shp,Tryz.underlying25,JV]at h;obtain⟨p1,q1,rfl,h1,p2,q2,rfl,h2,rfl⟩:=h;obtain⟨a,rfl,ha,hc⟩:=DK h1;obtain⟨b,rfl,hb,hd⟩:=DK h2;exact⟨a,b,by simp,ha,hb,hc,hd⟩
section
open Go.RowKit Go.ChangeShapes Go.WideShapes
variable {P:Program} {num:Nat→Option Nat} {W:World} {H:Type} {enc:TypeId×Value→H} {S:List TypeId} {base b0:Nat} {spare:Nat→Bool} {held:Bool} {r:Reach}
theorem QcG [Dr] {B:Nat} (hS:HP P S=true) {t e:TypeId} (ht:t∈S) (hu:P.underlying t=some (.slice e)) {v:Value} {d:DataW H} {p:List MemPlace} (hv:Value.okWide P W r b0 t v)
  (h:DataW.Trod enc P W base spare held t v d p) (hw: ∀n∈d.weights P t,n≤B): ∃n xs,Shp B P n t [.sl false (P.cellsOf e) xs]∧Qd num [] W (mW W) (.sl false (P.cellsOf e) xs) v:=by
 obtain⟨a,len,cap,rfl⟩:=okWide_slice hu hv;obtain⟨fuel,hf⟩:=h;obtain⟨avs,h1,h2,h3,h4⟩:=JQ (num:=num) (β:=[]) hS fuel t _ _ ht hf hw;cases fuel with
 | zero=>simp[Shp]at h1
 | succ n=>
  have h1':=h1;simp only[Shp,hu]at h1;obtain⟨xs,rfl,hb,hx⟩:=h1;refine⟨n+1,xs,h1',?_⟩;simp only[YV]at h4;obtain⟨⟨u,h5,h6⟩,_⟩:=h4;simp[Value.cells]at h5;subst h5;exact h6.2
end
end Go.Proofs.YtmlbijpbecpjoaaGreatDoor
