/-
  SeatRead.
-/
import Derived.Test.YtkikjgionglgaaaGreatDoorG09
import Derived.Test.YtkikjgionglgaaaGreatDoorG21
import Derived.Test.YtkikjgionglgaaaGreatDoorChecked
set_option linter.unusedVariables false
set_option linter.unusedSimpArgs false
namespace Go.Proofs.YtkikjgionglgaaaGreatDoor
open Go.Am
def VN:List TypeId:=[3,9,40,27,22,24,29]
theorem Wy:LD Tryz.prog VN=true:=by kernel_rfl
theorem RN {α:Type} {f:α→List AV}: ∀{xs:List (List AV)},(∀x∈xs,∃a,x=f a)→∃l:List α,xs=l.map f
 | [],_=>⟨[],rfl⟩
 | x:: xs,h=>by
  obtain⟨a,ha⟩:=h x (by simp);obtain⟨l,hl⟩:=RN (xs:=xs) fun y hy=>h y (by simp[hy]);exact⟨a:: l,by simp[ha,hl]⟩
theorem GB {B n:Nat} {avs:List AV} (h:Shp B Tryz.prog n 3 avs): ∃i,avs=[.int .i64 i]:=by
 cases n with
 | zero=>simp[Shp]at h
 | succ n=>
  simp only[Shp,Tryz.underlying3]at h;obtain⟨i,h1,_⟩:=h;exact⟨i,h1⟩
theorem GC {B n:Nat} {avs:List AV} (h:Shp B Tryz.prog n 9 avs): ∃s:List UInt8,avs=[.str s]∧s.length≤B:=by
 cases n with
 | zero=>simp[Shp]at h
 | succ n=>
  simp only[Shp,Tryz.underlying9]at h;exact h
theorem H7:Tryz.prog.cellsOf 40=4:=by kernel_rfl
theorem Qbd:Tryz.prog.bytesOf 40=56:=by kernel_rfl
theorem II {B:Nat}: ∀(n:Nat) (avs:List AV),Shp B Tryz.prog n 40 avs→∃t:Tm,avs=Qb t:=by
 intro n
 induction n using Nat.strongRecOn with
 | ind n ih=>
  intro avs h;cases n with
  | zero=>simp[Shp]at h
  | succ n=>
   simp only[Shp,Tryz.underlying40,Mb]at h;obtain⟨p1,q1,rfl,h1,p2,q2,rfl,h2,p3,q3,rfl,h3,p4,q4,rfl,h4,rfl⟩:=h;obtain⟨k,rfl⟩:=GB h1;obtain⟨s,rfl,_⟩:=GC h2;obtain⟨so,rfl⟩:=GB h3;cases n with
   | zero=>simp[Shp]at h4
   | succ n=>
    simp only[Shp,Tryz.underlying27]at h4;obtain⟨xs,rfl,_,hx⟩:=h4;obtain⟨l,rfl⟩:=RN (f:=Qb) (xs:=xs) fun x hxx=>ih n (by omega) x (hx x hxx);exact⟨.mk k s so l,by simp[Qb,QV,H7]⟩
theorem M9 {B n:Nat} {avs:List AV} (h:Shp B Tryz.prog n 27 avs): ∃l:List Tm,avs=[.sl false 4 (encTs l)]∧l.length*56≤B:=by
 cases n with
 | zero=>simp[Shp]at h
 | succ n=>
  simp only[Shp,Tryz.underlying27]at h;obtain⟨xs,rfl,hb,hx⟩:=h;obtain⟨l,rfl⟩:=RN (f:=Qb) (xs:=xs) fun x hxx=>II n x (hx x hxx);rw[Qbd]at hb;exact⟨l,by rw[QV,H7],by simpa using hb⟩
theorem QeX:Tryz.prog.cellsOf 9=1:=by kernel_rfl
theorem QeW:Tryz.prog.bytesOf 9=16:=by kernel_rfl
theorem M8 {B n:Nat} {avs:List AV} (h:Shp B Tryz.prog n 22 avs): ∃l:List Nm,avs=[.sl false 1 (QO l)]∧l.length*16≤B:=by
 cases n with
 | zero=>simp[Shp]at h
 | succ n=>
  simp only[Shp,Tryz.underlying22]at h;obtain⟨xs,rfl,hb,hx⟩:=h;obtain⟨l,rfl⟩:=RN (f:=fun s:Nm=>[AV.str s]) (xs:=xs) fun x hxx=>by
   obtain⟨s,h1,_⟩:=GC (hx x hxx);exact⟨s,h1⟩
  rw[QeW]at hb;exact⟨l,by rw[QeX];rfl,by simpa using hb⟩
theorem IG {B n:Nat} {avs:List AV} (h:Shp B Tryz.prog n 24 avs): ∃a b:List Nm,avs=QL a b∧a.length*16≤B∧b.length*16≤B:=by
 cases n with
 | zero=>simp[Shp]at h
 | succ n=>
  simp only[Shp,Tryz.underlying24,Mb]at h;obtain⟨p1,q1,rfl,h1,p2,q2,rfl,h2,rfl⟩:=h;obtain⟨a,rfl,ha⟩:=M8 h1;obtain⟨b,rfl,hb⟩:=M8 h2;exact⟨a,b,by simp[QL],ha,hb⟩
theorem GA {B n:Nat} {avs:List AV} (h:Shp B Tryz.prog n 29 avs): ∃(a b:List Nm) (k:List Tm),avs=Qt a b k∧a.length*16≤B∧b.length*16≤B:=by
 cases n with
 | zero=>simp[Shp]at h
 | succ n=>
  simp only[Shp,Tryz.underlying29,Mb]at h;obtain⟨p1,q1,rfl,h1,p2,q2,rfl,h2,rfl⟩:=h;obtain⟨a,b,rfl,ha,hb⟩:=IG h1;obtain⟨k,rfl,_⟩:=M9 h2;exact⟨a,b,k,by simp[QL,Qt],ha,hb⟩
section
open Go.RowKit Go.ChangeShapes Go.WideShapes
variable {P:Program} {num:Nat→Option Nat} {W:World} {H:Type} {enc:TypeId×Value→H} {S:List TypeId} {base b0:Nat} {spare:Nat→Bool} {held:Bool} {r:Reach}
theorem D8 [Dr] {B:Nat} (hS:LD P S=true) {t e:TypeId} (ht:t∈S) (hu:P.underlying t=some (.slice e)) {v:Value} {d:DataW H} {p:List MemPlace} (hv:Value.okWide P W r b0 t v)
  (h:DataW.Trod enc P W base spare held t v d p) (hw: ∀n∈d.weights P t,n≤B): ∃n xs,Shp B P n t [.sl false (P.cellsOf e) xs]∧Qd num [] W (mW W) (.sl false (P.cellsOf e) xs) v:=by
 obtain⟨a,len,cap,rfl⟩:=okWide_slice hu hv;obtain⟨fuel,hf⟩:=h;obtain⟨avs,h1,h2,h3,h4⟩:=NX (num:=num) (β:=[]) hS fuel t _ _ ht hf hw;cases fuel with
 | zero=>simp[Shp]at h1
 | succ n=>
  have h1':=h1;simp only[Shp,hu]at h1;obtain⟨xs,rfl,hb,hx⟩:=h1;refine⟨n+1,xs,h1',?_⟩;simp only[RepC]at h4;obtain⟨⟨u,h5,h6⟩,_⟩:=h4;simp[Value.cells]at h5;subst h5;exact h6.2
end
end Go.Proofs.YtkikjgionglgaaaGreatDoor
