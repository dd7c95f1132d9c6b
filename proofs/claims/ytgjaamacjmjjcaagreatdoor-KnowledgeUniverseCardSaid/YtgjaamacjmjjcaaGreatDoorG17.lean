/-
  SeatRead.
-/
import Derived.Test.YtgjaamacjmjjcaaGreatDoorG07
import Derived.Test.YtgjaamacjmjjcaaGreatDoorG16
import Derived.Test.YtgjaamacjmjjcaaGreatDoorChecked
set_option linter.all false
namespace Go.Proofs.YtgjaamacjmjjcaaGreatDoor
open Go.Am
def Qxn:List TypeId:=[3,9,4,5,35,34,24,22]
theorem Sk:CK Tryz.prog Qxn=true:=by kernel_rfl
theorem H5 {α:Type} {f:α→List AV}: ∀{xs:List (List AV)},(∀x∈xs,∃a,x=f a)→∃l:List α,xs=l.map f
 | [],_=>⟨[],rfl⟩
 | x:: xs,h=>by
  obtain⟨a,ha⟩:=h x (by simp);obtain⟨l,hl⟩:=H5 (xs:=xs) fun y hy=>h y (by simp[hy]);exact⟨a:: l,by simp[ha,hl]⟩
theorem IC {α:Type} {f:α→List AV} {q:α→Prop}: ∀{xs:List (List AV)},(∀x∈xs,∃a,x=f a∧q a)→∃l:List α,xs=l.map f∧∀a∈l,q a
 | [],_=>⟨[],rfl,by simp⟩
 | x:: xs,h=>by
  obtain⟨a,ha,hq⟩:=h x (by simp);obtain⟨l,hl,hql⟩:=IC (xs:=xs) fun y hy=>h y (by simp[hy]);refine⟨a:: l,by simp[ha,hl],fun b hb=> ?_⟩;rcases List.mem_cons.1 hb with rfl | hb
  ·exact hq
  ·exact hql b hb
theorem Qew {B n:Nat} {avs:List AV} (h:Shp B Tryz.prog n 3 avs): ∃i,avs=[.int .i64 i]:=by
 cases n with
 | zero=>simp[Shp]at h
 | succ n=>
  simp only[Shp,Tryz.underlying3]at h;obtain⟨i,h1,_⟩:=h;exact⟨i,h1⟩
theorem Qq6 {B n:Nat} {avs:List AV} (h:Shp B Tryz.prog n 9 avs): ∃s:List UInt8,avs=[.str s]∧s.length≤B:=by
 cases n with
 | zero=>simp[Shp]at h
 | succ n=>
  simp only[Shp,Tryz.underlying9]at h;exact h
theorem Qwz {i:Int} (h: (Lit.int .u8 i).wf=true): ∃n:Nat,i=n∧n < 256:=by
 simp only[Lit.wf]at h;have h2:IntKind.u8.min≤i∧i≤IntKind.u8.max:=by simpa using h
 have h3:IntKind.u8.min=0:=rfl;have h4:IntKind.u8.max=255:=rfl;exact⟨i.toNat,by omega,by omega⟩
theorem QuU {B n:Nat} {avs:List AV} (h:Shp B Tryz.prog n 5 avs): ∃i:Nat,avs=[.int .u8 (i:Int)]∧i < 256:=by
 cases n with
 | zero=>simp[Shp]at h
 | succ n=>
  simp only[Shp,Tryz.underlying5]at h;obtain⟨i,rfl,hw⟩:=h;obtain⟨k,rfl,hk⟩:=Qwz hw;exact⟨k,rfl,hk⟩
theorem QdB:Tryz.prog.cellsOf 24=4:=by kernel_rfl
theorem QnO:Tryz.prog.bytesOf 24=56:=by kernel_rfl
theorem Gp {B:Nat}: ∀(n:Nat) (avs:List AV),Shp B Tryz.prog n 24 avs→∃t:Tm,avs=Qd t:=by
 intro n
 induction n using Nat.strongRecOn with
 | ind n ih=>
  intro avs h;cases n with
  | zero=>simp[Shp]at h
  | succ n=>
   simp only[Shp,Tryz.underlying24,Qff]at h;obtain⟨p1,q1,rfl,h1,p2,q2,rfl,h2,p3,q3,rfl,h3,p4,q4,rfl,h4,rfl⟩:=h;obtain⟨k,rfl⟩:=Qew h1;obtain⟨s,rfl,_⟩:=Qq6 h2;obtain⟨so,rfl⟩:=Qew h3;cases n with
   | zero=>simp[Shp]at h4
   | succ n=>
    simp only[Shp,Tryz.underlying22]at h4;obtain⟨xs,rfl,_,hx⟩:=h4;obtain⟨l,rfl⟩:=H5 (f:=Qd) (xs:=xs) fun x hxx=>ih n (by omega) x (hx x hxx);exact⟨.mk k s so l,by simp[Qd,Zr,QdB]⟩
theorem Pp {B n:Nat} {avs:List AV} (h:Shp B Tryz.prog n 22 avs): ∃l:List Tm,avs=[.sl false 4 (Qa l)]∧l.length*56≤B:=by
 cases n with
 | zero=>simp[Shp]at h
 | succ n=>
  simp only[Shp,Tryz.underlying22]at h;obtain⟨xs,rfl,hb,hx⟩:=h;obtain⟨l,rfl⟩:=H5 (f:=Qd) (xs:=xs) fun x hxx=>Gp n x (hx x hxx);rw[QnO]at hb;exact⟨l,by rw[Zr,QdB],by simpa using hb⟩
theorem Qtp:Tryz.prog.cellsOf 5=1:=by kernel_rfl
theorem Qtm:Tryz.prog.bytesOf 5=1:=by kernel_rfl
theorem Ca {B n:Nat} {avs:List AV} (h:Shp B Tryz.prog n 35 avs): ∃b:List Nat,avs=[.sl false 1 (V6 b)]∧b.length≤B∧∀k∈b,k < 256:=by
 cases n with
 | zero=>simp[Shp]at h
 | succ n=>
  simp only[Shp,Tryz.underlying35]at h;obtain⟨xs,rfl,hb,hx⟩:=h;obtain⟨l,rfl,hl⟩:=IC (f:=fun k:Nat=>[AV.int .u8 (k:Int)]) (q:=fun k=>k < 256) (xs:=xs) fun x hxx=>QuU (hx x hxx);rw[Qtm]at hb;exact⟨l,by rw[Qtp];rfl,by simpa using hb,hl⟩
theorem Qpp:Tryz.prog.cellsOf 35=1:=by kernel_rfl
theorem QnP:Tryz.prog.bytesOf 35=24:=by kernel_rfl
theorem Qki {B n:Nat} {avs:List AV} (h:Shp B Tryz.prog n 34 avs): ∃l:List (List Nat),avs=[.sl false 1 (Vm l)]∧l.length*24≤B∧∀b∈l,∀k∈b,k < 256:=by
 cases n with
 | zero=>simp[Shp]at h
 | succ n=>
  simp only[Shp,Tryz.underlying34]at h;obtain⟨xs,rfl,hb,hx⟩:=h;obtain⟨l,rfl,hl⟩:=IC (f:=fun b:List Nat=>[AV.sl false 1 (V6 b)]) (q:=fun b=>∀k∈b,k < 256) (xs:=xs) fun x hxx=>by
   obtain⟨b,h1,_,h2⟩:=Ca (hx x hxx);exact⟨b,h1,h2⟩
  rw[QnP]at hb;exact⟨l,by rw[Qpp];rfl,by simpa using hb,hl⟩
section
open Go.RowKit Go.ChangeShapes Go.WideShapes
variable {P:Program} {num:Nat→Option Nat} {W:World} {H:Type} {enc:TypeId×Value→H} {S:List TypeId} {base b0:Nat} {spare:Nat→Bool} {held:Bool} {r:Reach}
theorem TB [Dr] {B:Nat} (hS:CK P S=true) {t e:TypeId} (ht:t∈S) (hu:P.underlying t=some (.slice e)) {v:Value} {d:DataW H} {p:List MemPlace} (hv:Value.okWide P W r b0 t v)
  (h:DataW.Trod enc P W base spare held t v d p) (hw: ∀n∈d.weights P t,n≤B): ∃n xs,Shp B P n t [.sl false (P.cellsOf e) xs]∧Qi num [] W (mW W) (.sl false (P.cellsOf e) xs) v:=by
 obtain⟨a,len,cap,rfl⟩:=okWide_slice hu hv;obtain⟨fuel,hf⟩:=h;obtain⟨avs,h1,h2,h3,h4⟩:=Ej (num:=num) (β:=[]) hS fuel t _ _ ht hf hw;cases fuel with
 | zero=>simp[Shp]at h1
 | succ n=>
  have h1':=h1;simp only[Shp,hu]at h1;obtain⟨xs,rfl,hb,hx⟩:=h1;refine⟨n+1,xs,h1',?_⟩;simp only[XN]at h4;obtain⟨⟨u,h5,h6⟩,_⟩:=h4;simp[Value.cells]at h5;subst h5;exact h6.2
end
end Go.Proofs.YtgjaamacjmjjcaaGreatDoor
