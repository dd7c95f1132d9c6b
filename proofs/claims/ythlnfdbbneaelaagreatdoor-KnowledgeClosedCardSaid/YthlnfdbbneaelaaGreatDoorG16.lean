/-
  SeatRead.
-/
import Derived.Test.YthlnfdbbneaelaaGreatDoorG07
import Derived.Test.YthlnfdbbneaelaaGreatDoorG15
import Derived.Test.YthlnfdbbneaelaaGreatDoorChecked
set_option linter.all false
namespace Go.Proofs.YthlnfdbbneaelaaGreatDoor
open Go.Am
def Qxp:List TypeId:=[3,9,4,5,23,22]
theorem Qep:QfV Tryz.prog Qxp=true:=by kernel_rfl
theorem Ig {α:Type} {f:α→List AV} {q:α→Prop}: ∀{xs:List (List AV)},(∀x∈xs,∃a,x=f a∧q a)→∃l:List α,xs=l.map f∧∀a∈l,q a
 | [],_=>⟨[],rfl,by simp⟩
 | x:: xs,h=>by
  obtain⟨a,ha,hq⟩:=h x (by simp);obtain⟨l,hl,hql⟩:=Ig (xs:=xs) fun y hy=>h y (by simp[hy]);refine⟨a:: l,by simp[ha,hl],fun b hb=> ?_⟩;rcases List.mem_cons.1 hb with rfl | hb
  ·exact hq
  ·exact hql b hb
theorem QnF {i:Int} (h: (Lit.int .u8 i).wf=true): ∃n:Nat,i=n∧n < 256:=by
 simp only[Lit.wf]at h;have h2:IntKind.u8.min≤i∧i≤IntKind.u8.max:=by simpa using h
 have h3:IntKind.u8.min=0:=rfl;have h4:IntKind.u8.max=255:=rfl;exact⟨i.toNat,by omega,by omega⟩
theorem QuY {B n:Nat} {avs:List AV} (h:Shp B Tryz.prog n 5 avs): ∃i:Nat,avs=[.int .u8 (i:Int)]∧i < 256:=by
 cases n with
 | zero=>simp[Shp]at h
 | succ n=>
  simp only[Shp,Tryz.underlying5]at h;obtain⟨i,rfl,hw⟩:=h;obtain⟨k,rfl,hk⟩:=QnF hw;exact⟨k,rfl,hk⟩
theorem Qtt:Tryz.prog.cellsOf 5=1:=by kernel_rfl
theorem Qtq:Tryz.prog.bytesOf 5=1:=by kernel_rfl
theorem Dx {B n:Nat} {avs:List AV} (h:Shp B Tryz.prog n 23 avs): ∃b:List Nat,avs=[.sl false 1 (Vy b)]∧b.length≤B∧∀k∈b,k < 256:=by
 cases n with
 | zero=>simp[Shp]at h
 | succ n=>
  simp only[Shp,Tryz.underlying23]at h;obtain⟨xs,rfl,hb,hx⟩:=h;obtain⟨l,rfl,hl⟩:=Ig (f:=fun k:Nat=>[AV.int .u8 (k:Int)]) (q:=fun k=>k < 256) (xs:=xs) fun x hxx=>QuY (hx x hxx);rw[Qtq]at hb;exact⟨l,by rw[Qtt];rfl,by simpa using hb,hl⟩
theorem Qph:Tryz.prog.cellsOf 23=1:=by kernel_rfl
theorem QnV:Tryz.prog.bytesOf 23=24:=by kernel_rfl
theorem Qj7 {B n:Nat} {avs:List AV} (h:Shp B Tryz.prog n 22 avs): ∃l:List (List Nat),avs=[.sl false 1 (WK l)]∧l.length*24≤B∧∀b∈l,∀k∈b,k < 256:=by
 cases n with
 | zero=>simp[Shp]at h
 | succ n=>
  simp only[Shp,Tryz.underlying22]at h;obtain⟨xs,rfl,hb,hx⟩:=h;obtain⟨l,rfl,hl⟩:=Ig (f:=fun b:List Nat=>[AV.sl false 1 (Vy b)]) (q:=fun b=>∀k∈b,k < 256) (xs:=xs) fun x hxx=>by
   obtain⟨b,h1,_,h2⟩:=Dx (hx x hxx);exact⟨b,h1,h2⟩
  rw[QnV]at hb;exact⟨l,by rw[Qph];rfl,by simpa using hb,hl⟩
section
open Go.RowKit Go.ChangeShapes Go.WideShapes
variable {P:Program} {num:Nat→Option Nat} {W:World} {H:Type} {enc:TypeId×Value→H} {S:List TypeId} {base b0:Nat} {spare:Nat→Bool} {held:Bool} {r:Reach}
theorem EQ [Dr] {B:Nat} (hS:QfV P S=true) {t e:TypeId} (ht:t∈S) (hu:P.underlying t=some (.slice e)) {v:Value} {d:DataW H} {p:List MemPlace} (hv:Value.okWide P W r b0 t v)
  (h:DataW.Trod enc P W base spare held t v d p) (hw: ∀n∈d.weights P t,n≤B): ∃n xs,Shp B P n t [.sl false (P.cellsOf e) xs]∧Qh num [] W (mW W) (.sl false (P.cellsOf e) xs) v:=by
 obtain⟨a,len,cap,rfl⟩:=okWide_slice hu hv;obtain⟨fuel,hf⟩:=h;obtain⟨avs,h1,h2,h3,h4⟩:=Qgu (num:=num) (β:=[]) hS fuel t _ _ ht hf hw;cases fuel with
 | zero=>simp[Shp]at h1
 | succ n=>
  have h1':=h1;simp only[Shp,hu]at h1;obtain⟨xs,rfl,hb,hx⟩:=h1;refine⟨n+1,xs,h1',?_⟩;simp only[XM]at h4;obtain⟨⟨u,h5,h6⟩,_⟩:=h4;simp[Value.cells]at h5;subst h5;exact h6.2
end
end Go.Proofs.YthlnfdbbneaelaaGreatDoor
