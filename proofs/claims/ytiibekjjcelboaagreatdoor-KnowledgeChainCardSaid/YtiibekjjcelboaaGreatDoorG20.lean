/-
  SeatRead.
-/
import Derived.Test.YtiibekjjcelboaaGreatDoorG09
import Derived.Test.YtiibekjjcelboaaGreatDoorG19
import Derived.Test.YtiibekjjcelboaaGreatDoorChecked
set_option linter.unusedVariables false
set_option linter.unusedSimpArgs false
namespace Go.Proofs.YtiibekjjcelboaaGreatDoor
open Go.Am
def Qiz:List TypeId:=[3,9,4,5,23,22]
theorem MR:F7 Tryz.prog Qiz=true:=by kernel_rfl
theorem PV {α:Type} {f:α→List AV} {q:α→Prop}: ∀{xs:List (List AV)},(∀x∈xs,∃a,x=f a∧q a)→∃l:List α,xs=l.map f∧∀a∈l,q a
 | [],_=>⟨[],rfl,by simp⟩
 | x:: xs,h=>by
  obtain⟨a,ha,hq⟩:=h x (by simp);obtain⟨l,hl,hql⟩:=PV (xs:=xs) fun y hy=>h y (by simp[hy]);refine⟨a:: l,by simp[ha,hl],fun b hb=> ?_⟩;rcases List.mem_cons.1 hb with rfl | hb
  ·exact hq
  ·exact hql b hb
theorem QhT {i:Int} (h: (Lit.int .u8 i).wf=true): ∃n:Nat,i=n∧n < 256:=by
 simp only[Lit.wf]at h;have h2:IntKind.u8.min≤i∧i≤IntKind.u8.max:=by simpa using h
 have h3:IntKind.u8.min=0:=rfl;have h4:IntKind.u8.max=255:=rfl;exact⟨i.toNat,by omega,by omega⟩
theorem QgY {B n:Nat} {avs:List AV} (h:Shp B Tryz.prog n 5 avs): ∃i:Nat,avs=[.int .u8 (i:Int)]∧i < 256:=by
 cases n with
 | zero=>simp[Shp]at h
 | succ n=>
  simp only[Shp,Tryz.underlying5]at h;obtain⟨i,rfl,hw⟩:=h;obtain⟨k,rfl,hk⟩:=QhT hw;exact⟨k,rfl,hk⟩
theorem QfW:Tryz.prog.cellsOf 5=1:=by kernel_rfl
theorem QfS:Tryz.prog.bytesOf 5=1:=by kernel_rfl
theorem P6 {B n:Nat} {avs:List AV} (h:Shp B Tryz.prog n 23 avs): ∃b:List Nat,avs=[.sl false 1 (Yn b)]∧b.length≤B∧∀k∈b,k < 256:=by
 cases n with
 | zero=>simp[Shp]at h
 | succ n=>
  simp only[Shp,Tryz.underlying23]at h;obtain⟨xs,rfl,hb,hx⟩:=h;obtain⟨l,rfl,hl⟩:=PV (f:=fun k:Nat=>[AV.int .u8 (k:Int)]) (q:=fun k=>k < 256) (xs:=xs) fun x hxx=>QgY (hx x hxx);rw[QfS]at hb;exact⟨l,by rw[QfW];rfl,by simpa using hb,hl⟩
theorem Qdn:Tryz.prog.cellsOf 23=1:=by kernel_rfl
theorem Qct:Tryz.prog.bytesOf 23=24:=by kernel_rfl
theorem BW {B n:Nat} {avs:List AV} (h:Shp B Tryz.prog n 22 avs): ∃l:List (List Nat),avs=[.sl false 1 (YI l)]∧l.length*24≤B∧∀b∈l,∀k∈b,k < 256:=by
 cases n with
 | zero=>simp[Shp]at h
 | succ n=>
  simp only[Shp,Tryz.underlying22]at h;obtain⟨xs,rfl,hb,hx⟩:=h;obtain⟨l,rfl,hl⟩:=PV (f:=fun b:List Nat=>[AV.sl false 1 (Yn b)]) (q:=fun b=>∀k∈b,k < 256) (xs:=xs) fun x hxx=>by
   obtain⟨b,h1,_,h2⟩:=P6 (hx x hxx);exact⟨b,h1,h2⟩
  rw[Qct]at hb;exact⟨l,by rw[Qdn];rfl,by simpa using hb,hl⟩
section
open Go.RowKit Go.ChangeShapes Go.WideShapes
variable {P:Program} {num:Nat→Option Nat} {W:World} {H:Type} {enc:TypeId×Value→H} {S:List TypeId} {base b0:Nat} {spare:Nat→Bool} {held:Bool} {r:Reach}
theorem Pr [Dr] {B:Nat} (hS:F7 P S=true) {t e:TypeId} (ht:t∈S) (hu:P.underlying t=some (.slice e)) {v:Value} {d:DataW H} {p:List MemPlace} (hv:Value.okWide P W r b0 t v)
  (h:DataW.Trod enc P W base spare held t v d p) (hw: ∀n∈d.weights P t,n≤B): ∃n xs,Shp B P n t [.sl false (P.cellsOf e) xs]∧Qd num [] W (mW W) (.sl false (P.cellsOf e) xs) v:=by
 obtain⟨a,len,cap,rfl⟩:=okWide_slice hu hv;obtain⟨fuel,hf⟩:=h;obtain⟨avs,h1,h2,h3,h4⟩:=ER (num:=num) (β:=[]) hS fuel t _ _ ht hf hw;cases fuel with
 | zero=>simp[Shp]at h1
 | succ n=>
  have h1':=h1;simp only[Shp,hu]at h1;obtain⟨xs,rfl,hb,hx⟩:=h1;refine⟨n+1,xs,h1',?_⟩;simp only[RepC]at h4;obtain⟨⟨u,h5,h6⟩,_⟩:=h4;simp[Value.cells]at h5;subst h5;exact h6.2
end
end Go.Proofs.YtiibekjjcelboaaGreatDoor
