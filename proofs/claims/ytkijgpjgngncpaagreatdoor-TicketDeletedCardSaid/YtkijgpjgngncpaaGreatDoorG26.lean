/-
  SeatRead.
-/
import Derived.Test.YtkijgpjgngncpaaGreatDoorG10
import Derived.Test.YtkijgpjgngncpaaGreatDoorG25
import Derived.Test.YtkijgpjgngncpaaGreatDoorChecked
set_option linter.all false
namespace Go.Proofs.YtkijgpjgngncpaaGreatDoor
open Go.Am
def Qgx:List TypeId:=[3,9,4,5,54,22]
theorem Qdn:Fm Tryz.prog Qgx=true:=by kernel_rfl
theorem Lu {α:Type} {f:α→List AV} {q:α→Prop}: ∀{xs:List (List AV)},(∀x∈xs,∃a,x=f a∧q a)→∃l:List α,xs=l.map f∧∀a∈l,q a
 | [],_=>⟨[],rfl,by simp⟩
 | x:: xs,h=>by
  obtain⟨a,ha,hq⟩:=h x (by simp);obtain⟨l,hl,hql⟩:=Lu (xs:=xs) fun y hy=>h y (by simp[hy]);refine⟨a:: l,by simp[ha,hl],fun b hb=> ?_⟩;rcases List.mem_cons.1 hb with rfl | hb
  ·exact hq
  ·exact hql b hb
theorem QaN {i:Int} (h: (Lit.int .u8 i).wf=true): ∃n:Nat,i=n∧n < 256:=by
 simp only[Lit.wf]at h;have h2:IntKind.u8.min≤i∧i≤IntKind.u8.max:=by simpa using h
 have h3:IntKind.u8.min=0:=rfl;have h4:IntKind.u8.max=255:=rfl;exact⟨i.toNat,by omega,by omega⟩
theorem J7 {B n:Nat} {avs:List AV} (h:Shp B Tryz.prog n 5 avs): ∃i:Nat,avs=[.int .u8 (i:Int)]∧i < 256:=by
 cases n with
 | zero=>simp[Shp]at h
 | succ n=>
  simp only[Shp,Tryz.underlying5]at h;obtain⟨i,rfl,hw⟩:=h;obtain⟨k,rfl,hk⟩:=QaN hw;exact⟨k,rfl,hk⟩
theorem QbP:Tryz.prog.cellsOf 54=3:=by kernel_rfl
theorem Qa7:Tryz.prog.bytesOf 54=3:=by kernel_rfl
theorem QeT {B n:Nat} {avs:List AV} (h:Shp B Tryz.prog n 54 avs): ∃d:OpU,avs=UQ d∧d.ok:=by
 cases n with
 | zero=>simp[Shp]at h
 | succ n=>
  simp only[Shp,Tryz.underlying54,Gx]at h;obtain⟨p1,q1,rfl,h1,p2,q2,rfl,h2,p3,q3,rfl,h3,rfl⟩:=h;obtain⟨a,rfl,ha⟩:=J7 h1;obtain⟨b,rfl,hb⟩:=J7 h2;obtain⟨c,rfl,hc⟩:=J7 h3;exact⟨⟨a,b,c⟩,by simp[UQ],ha,hb,hc⟩
theorem Qde {B n:Nat} {avs:List AV} (h:Shp B Tryz.prog n 22 avs): ∃l:List OpU,avs=[.sl false 3 (l.map UQ)]∧l.length*3≤B∧∀x∈l,x.ok:=by
 cases n with
 | zero=>simp[Shp]at h
 | succ n=>
  simp only[Shp,Tryz.underlying22]at h;obtain⟨xs,rfl,hb,hx⟩:=h;obtain⟨l,rfl,hl⟩:=Lu (f:=UQ) (q:=OpU.ok) (xs:=xs) fun x hxx=>QeT (hx x hxx);rw[Qa7]at hb;exact⟨l,by rw[QbP],by simpa using hb,hl⟩
section
open Go.RowKit Go.ChangeShapes Go.WideShapes
variable {P:Program} {num:Nat→Option Nat} {W:World} {H:Type} {enc:TypeId×Value→H} {S:List TypeId} {base b0:Nat} {spare:Nat→Bool} {held:Bool} {r:Reach}
theorem Ej [Dr] {B:Nat} (hS:Fm P S=true) {t e:TypeId} (ht:t∈S) (hu:P.underlying t=some (.slice e)) {v:Value} {d:DataW H} {p:List MemPlace} (hv:Value.okWide P W r b0 t v)
  (h:DataW.Trod enc P W base spare held t v d p) (hw: ∀n∈d.weights P t,n≤B): ∃n xs,Shp B P n t [.sl false (P.cellsOf e) xs]∧Qc num [] W (mW W) (.sl false (P.cellsOf e) xs) v:=by
 obtain⟨a,len,cap,rfl⟩:=okWide_slice hu hv;obtain⟨fuel,hf⟩:=h;obtain⟨avs,h1,h2,h3,h4⟩:=FY (num:=num) (β:=[]) hS fuel t _ _ ht hf hw;cases fuel with
 | zero=>simp[Shp]at h1
 | succ n=>
  have h1':=h1;simp only[Shp,hu]at h1;obtain⟨xs,rfl,hb,hx⟩:=h1;refine⟨n+1,xs,h1',?_⟩;simp only[RepC]at h4;obtain⟨⟨u,h5,h6⟩,_⟩:=h4;simp[Value.cells]at h5;subst h5;exact h6.2
end
end Go.Proofs.YtkijgpjgngncpaaGreatDoor
