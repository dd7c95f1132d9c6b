/-
  SeatRead.
-/
import Derived.Test.YtpdmcibimbjknaaGreatDoorG09
import Derived.Test.YtpdmcibimbjknaaGreatDoorG23
import Derived.Test.YtpdmcibimbjknaaGreatDoorChecked
set_option linter.unusedVariables false
set_option linter.unusedSimpArgs false
namespace Go.Proofs.YtpdmcibimbjknaaGreatDoor
open Go.Am
def V7:List TypeId:=[3,9,29,25,22,24,27,33,35,30]
theorem VS:Kw Tryz.prog V7=true:=by kernel_rfl
theorem Uh {α:Type} {f:α→List AV}: ∀{xs:List (List AV)},(∀x∈xs,∃a,x=f a)→∃l:List α,xs=l.map f
 | [],_=>⟨[],rfl⟩
 | x:: xs,h=>by
  obtain⟨a,ha⟩:=h x (by simp);obtain⟨l,hl⟩:=Uh (xs:=xs) fun y hy=>h y (by simp[hy]);exact⟨a:: l,by simp[ha,hl]⟩
theorem RY {B n:Nat} {avs:List AV} (h:Shp B Tryz.prog n 3 avs): ∃i,avs=[.int .i64 i]:=by
 cases n with
 | zero=>simp[Shp]at h
 | succ n=>
  simp only[Shp,Tryz.underlying3]at h;obtain⟨i,h1,_⟩:=h;exact⟨i,h1⟩
theorem Fz {B n:Nat} {avs:List AV} (h:Shp B Tryz.prog n 9 avs): ∃s:List UInt8,avs=[.str s]∧s.length≤B:=by
 cases n with
 | zero=>simp[Shp]at h
 | succ n=>
  simp only[Shp,Tryz.underlying9]at h;exact h
theorem G6:Tryz.prog.cellsOf 29=4:=by kernel_rfl
theorem Qcy:Tryz.prog.bytesOf 29=56:=by kernel_rfl
theorem NU {B:Nat}: ∀(n:Nat) (avs:List AV),Shp B Tryz.prog n 29 avs→∃t:Tm,avs=Qc t:=by
 intro n
 induction n using Nat.strongRecOn with
 | ind n ih=>
  intro avs h;cases n with
  | zero=>simp[Shp]at h
  | succ n=>
   simp only[Shp,Tryz.underlying29,Np]at h;obtain⟨p1,q1,rfl,h1,p2,q2,rfl,h2,p3,q3,rfl,h3,p4,q4,rfl,h4,rfl⟩:=h;obtain⟨k,rfl⟩:=RY h1;obtain⟨s,rfl,_⟩:=Fz h2;obtain⟨so,rfl⟩:=RY h3;cases n with
   | zero=>simp[Shp]at h4
   | succ n=>
    simp only[Shp,Tryz.underlying25]at h4;obtain⟨xs,rfl,_,hx⟩:=h4;obtain⟨l,rfl⟩:=Uh (f:=Qc) (xs:=xs) fun x hxx=>ih n (by omega) x (hx x hxx);exact⟨.mk k s so l,by simp[Qc,Zq,G6]⟩
theorem AB {B n:Nat} {avs:List AV} (h:Shp B Tryz.prog n 25 avs): ∃l:List Tm,avs=[.sl false 4 (encTs l)]∧l.length*56≤B:=by
 cases n with
 | zero=>simp[Shp]at h
 | succ n=>
  simp only[Shp,Tryz.underlying25]at h;obtain⟨xs,rfl,hb,hx⟩:=h;obtain⟨l,rfl⟩:=Uh (f:=Qc) (xs:=xs) fun x hxx=>NU n x (hx x hxx);rw[Qcy]at hb;exact⟨l,by rw[Zq,G6],by simpa using hb⟩
theorem QgQ:Tryz.prog.cellsOf 9=1:=by kernel_rfl
theorem QgM:Tryz.prog.bytesOf 9=16:=by kernel_rfl
theorem L1 {B n:Nat} {avs:List AV} (h:Shp B Tryz.prog n 22 avs): ∃l:List Nm,avs=[.sl false 1 (Za l)]∧l.length*16≤B:=by
 cases n with
 | zero=>simp[Shp]at h
 | succ n=>
  simp only[Shp,Tryz.underlying22]at h;obtain⟨xs,rfl,hb,hx⟩:=h;obtain⟨l,rfl⟩:=Uh (f:=fun s:Nm=>[AV.str s]) (xs:=xs) fun x hxx=>by
   obtain⟨s,h1,_⟩:=Fz (hx x hxx);exact⟨s,h1⟩
  rw[QgM]at hb;exact⟨l,by rw[QgQ];rfl,by simpa using hb⟩
theorem QbA {B n:Nat} {avs:List AV} (h:Shp B Tryz.prog n 24 avs): ∃a b:List Nm,avs=QU a b∧a.length*16≤B∧b.length*16≤B:=by
 cases n with
 | zero=>simp[Shp]at h
 | succ n=>
  simp only[Shp,Tryz.underlying24,Np]at h;obtain⟨p1,q1,rfl,h1,p2,q2,rfl,h2,rfl⟩:=h;obtain⟨a,rfl,ha⟩:=L1 h1;obtain⟨b,rfl,hb⟩:=L1 h2;exact⟨a,b,by simp[QU],ha,hb⟩
theorem QeV {B n:Nat} {avs:List AV} (h:Shp B Tryz.prog n 27 avs): ∃(a b:List Nm) (k:List Tm),avs=Zj a b k∧a.length*16≤B∧b.length*16≤B:=by
 cases n with
 | zero=>simp[Shp]at h
 | succ n=>
  simp only[Shp,Tryz.underlying27,Np]at h;obtain⟨p1,q1,rfl,h1,p2,q2,rfl,h2,rfl⟩:=h;obtain⟨a,b,rfl,ha,hb⟩:=QbA h1;obtain⟨k,rfl,_⟩:=AB h2;exact⟨a,b,k,by simp[QU,Zj],ha,hb⟩
theorem QgP:Tryz.prog.cellsOf 3=1:=by kernel_rfl
theorem HG {B n:Nat} {avs:List AV} (h:Shp B Tryz.prog n 33 avs): ∃l:List Int,avs=[.sl false 1 (Yr l)]:=by
 cases n with
 | zero=>simp[Shp]at h
 | succ n=>
  simp only[Shp,Tryz.underlying33]at h;obtain⟨xs,rfl,_,hx⟩:=h;obtain⟨l,rfl⟩:=Uh (f:=fun i:Int=>[AV.int .i64 i]) (xs:=xs) fun x hxx=>RY (hx x hxx);exact⟨l,by rw[QgP];rfl⟩
theorem QdS:Tryz.prog.cellsOf 35=8:=by kernel_rfl
theorem QeU {B n:Nat} {avs:List AV} (h:Shp B Tryz.prog n 35 avs): ∃d:Ded,avs=Zi d:=by
 cases n with
 | zero=>simp[Shp]at h
 | succ n=>
  simp only[Shp,Tryz.underlying35,Np]at h;obtain⟨p1,q1,rfl,h1,p2,q2,rfl,h2,p3,q3,rfl,h3,p4,q4,rfl,h4,p5,q5,rfl,h5,rfl⟩:=h;obtain⟨r,rfl⟩:=RY h1;obtain⟨m,rfl⟩:=RY h2;obtain⟨a,rfl⟩:=HG h3;obtain⟨c,rfl⟩:=HG h4;obtain⟨t,rfl⟩:=NU _ _ h5;exact⟨⟨r,m,a,c,t⟩,by simp[Zi]⟩
theorem QbB {B n:Nat} {avs:List AV} (h:Shp B Tryz.prog n 30 avs): ∃l:List Ded,avs=[.sl false 8 (ZX l)]:=by
 cases n with
 | zero=>simp[Shp]at h
 | succ n=>
  simp only[Shp,Tryz.underlying30]at h;obtain⟨xs,rfl,_,hx⟩:=h;obtain⟨l,rfl⟩:=Uh (f:=Zi) (xs:=xs) fun x hxx=>QeU (hx x hxx);exact⟨l,by rw[QdS];rfl⟩
section
open Go.RowKit Go.ChangeShapes Go.WideShapes
variable {P:Program} {num:Nat→Option Nat} {W:World} {H:Type} {enc:TypeId×Value→H} {S:List TypeId} {base b0:Nat} {spare:Nat→Bool} {held:Bool} {r:Reach}
theorem Bc [Dr] {B:Nat} (hS:Kw P S=true) {t e:TypeId} (ht:t∈S) (hu:P.underlying t=some (.slice e)) {v:Value} {d:DataW H} {p:List MemPlace} (hv:Value.okWide P W r b0 t v)
  (h:DataW.Trod enc P W base spare held t v d p) (hw: ∀n∈d.weights P t,n≤B): ∃n xs,Shp B P n t [.sl false (P.cellsOf e) xs]∧Qd num [] W (mW W) (.sl false (P.cellsOf e) xs) v:=by
 obtain⟨a,len,cap,rfl⟩:=okWide_slice hu hv;obtain⟨fuel,hf⟩:=h;obtain⟨avs,h1,h2,h3,h4⟩:=MN (num:=num) (β:=[]) hS fuel t _ _ ht hf hw;cases fuel with
 | zero=>simp[Shp]at h1
 | succ n=>
  have h1':=h1;simp only[Shp,hu]at h1;obtain⟨xs,rfl,hb,hx⟩:=h1;refine⟨n+1,xs,h1',?_⟩;simp only[RepC]at h4;obtain⟨⟨u,h5,h6⟩,_⟩:=h4;simp[Value.cells]at h5;subst h5;exact h6.2
end
end Go.Proofs.YtpdmcibimbjknaaGreatDoor
