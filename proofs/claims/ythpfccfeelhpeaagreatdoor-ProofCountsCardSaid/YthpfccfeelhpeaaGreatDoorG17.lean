/-
  SeatRead.
-/
import Derived.Test.YthpfccfeelhpeaaGreatDoorG10
import Derived.Test.YthpfccfeelhpeaaGreatDoorG16
import Derived.Test.YthpfccfeelhpeaaGreatDoorChecked
set_option linter.all false
namespace Go.Proofs.YthpfccfeelhpeaaGreatDoor
open Go.Am
def QeL:List TypeId:=[3,9,4,5,38,36,27,43,22]
theorem CX:JF Tryz.prog QeL=true:=by kernel_rfl
theorem RD {α:Type} {f:α→List AV}: ∀{xs:List (List AV)},(∀x∈xs,∃a,x=f a)→∃l:List α,xs=l.map f
 | [],_=>⟨[],rfl⟩
 | x:: xs,h=>by
  obtain⟨a,ha⟩:=h x (by simp);obtain⟨l,hl⟩:=RD (xs:=xs) fun y hy=>h y (by simp[hy]);exact⟨a:: l,by simp[ha,hl]⟩
theorem Og {α:Type} {f:α→List AV} {q:α→Prop}: ∀{xs:List (List AV)},(∀x∈xs,∃a,x=f a∧q a)→∃l:List α,xs=l.map f∧∀a∈l,q a
 | [],_=>⟨[],rfl,by simp⟩
 | x:: xs,h=>by
  obtain⟨a,ha,hq⟩:=h x (by simp);obtain⟨l,hl,hql⟩:=Og (xs:=xs) fun y hy=>h y (by simp[hy]);refine⟨a:: l,by simp[ha,hl],fun b hb=> ?_⟩;rcases List.mem_cons.1 hb with rfl | hb
  ·exact hq
  ·exact hql b hb
theorem Tj {B n:Nat} {avs:List AV} (h:Shp B Tryz.prog n 3 avs): ∃i,avs=[.int .i64 i]:=by
 cases n with
 | zero=>simp[Shp]at h
 | succ n=>
  simp only[Shp,Tryz.underlying3]at h;obtain⟨i,h1,_⟩:=h;exact⟨i,h1⟩
theorem CS {B n:Nat} {avs:List AV} (h:Shp B Tryz.prog n 9 avs): ∃s:List UInt8,avs=[.str s]∧s.length≤B:=by
 cases n with
 | zero=>simp[Shp]at h
 | succ n=>
  simp only[Shp,Tryz.underlying9]at h;exact h
theorem DD:Tryz.prog.cellsOf 38=4:=by kernel_rfl
theorem EO {B:Nat}: ∀(n:Nat) (avs:List AV),Shp B Tryz.prog n 38 avs→∃t:Tm,avs=QU t:=by
 intro n
 induction n using Nat.strongRecOn with
 | ind n ih=>
  intro avs h;cases n with
  | zero=>simp[Shp]at h
  | succ n=>
   simp only[Shp,Tryz.underlying38,Mw]at h;obtain⟨p1,q1,rfl,h1,p2,q2,rfl,h2,p3,q3,rfl,h3,p4,q4,rfl,h4,rfl⟩:=h;obtain⟨k,rfl⟩:=Tj h1;obtain⟨s,rfl,_⟩:=CS h2;obtain⟨so,rfl⟩:=Tj h3;cases n with
   | zero=>simp[Shp]at h4
   | succ n=>
    simp only[Shp,Tryz.underlying36]at h4;obtain⟨xs,rfl,_,hx⟩:=h4;obtain⟨l,rfl⟩:=RD (f:=QU) (xs:=xs) fun x hxx=>ih n (by omega) x (hx x hxx);exact⟨.mk k s so l,by simp[QU,VO,DD]⟩
theorem Qbl:Tryz.prog.cellsOf 3=1:=by kernel_rfl
theorem Qbh:Tryz.prog.bytesOf 3=8:=by kernel_rfl
theorem LG {B n:Nat} {avs:List AV} (h:Shp B Tryz.prog n 27 avs): ∃l:List Int,avs=[.sl false 1 (QZ l)]∧l.length*8≤B:=by
 cases n with
 | zero=>simp[Shp]at h
 | succ n=>
  simp only[Shp,Tryz.underlying27]at h;obtain⟨xs,rfl,hb,hx⟩:=h;obtain⟨l,rfl⟩:=RD (f:=fun i:Int=>[AV.int .i64 i]) (xs:=xs) fun x hxx=>Tj (hx x hxx);rw[Qbh]at hb;exact⟨l,by rw[Qbl];rfl,by simpa using hb⟩
theorem DE:Tryz.prog.cellsOf 43=8:=by kernel_rfl
theorem Du:Tryz.prog.bytesOf 43=120:=by kernel_rfl
theorem CR {B n:Nat} {avs:List AV} (h:Shp B Tryz.prog n 43 avs): ∃d:Ded,avs=Zl d∧d.a.length*8≤B∧d.c.length*8≤B:=by
 cases n with
 | zero=>simp[Shp]at h
 | succ n=>
  simp only[Shp,Tryz.underlying43,Mw]at h;obtain⟨p1,q1,rfl,h1,p2,q2,rfl,h2,p3,q3,rfl,h3,p4,q4,rfl,h4,p5,q5,rfl,h5,rfl⟩:=h;obtain⟨r,rfl⟩:=Tj h1;obtain⟨m,rfl⟩:=Tj h2;obtain⟨a,rfl,ha⟩:=LG h3;obtain⟨c,rfl,hc⟩:=LG h4;obtain⟨t,rfl⟩:=EO _ _ h5;exact⟨⟨r,m,a,c,t⟩,by simp[Zl],ha,hc⟩
theorem EN {B n:Nat} {avs:List AV} (h:Shp B Tryz.prog n 22 avs): ∃l:List Ded,avs=[.sl false 8 (Zo l)]∧l.length*120≤B∧∀d∈l,d.a.length*8≤B∧d.c.length*8≤B:=by
 cases n with
 | zero=>simp[Shp]at h
 | succ n=>
  simp only[Shp,Tryz.underlying22]at h;obtain⟨xs,rfl,hb,hx⟩:=h;obtain⟨l,rfl,hl⟩:=Og (f:=Zl) (q:=fun d=>d.a.length*8≤B∧d.c.length*8≤B) (xs:=xs) fun x hxx=>CR (hx x hxx);rw[Du]at hb;exact⟨l,by rw[DE];rfl,by simpa using hb,hl⟩
section
open Go.RowKit Go.ChangeShapes Go.WideShapes
variable {P:Program} {num:Nat→Option Nat} {W:World} {H:Type} {enc:TypeId×Value→H} {S:List TypeId} {base b0:Nat} {spare:Nat→Bool} {held:Bool} {r:Reach}
theorem H3 [Dr] {B:Nat} (hS:JF P S=true) {t e:TypeId} (ht:t∈S) (hu:P.underlying t=some (.slice e)) {v:Value} {d:DataW H} {p:List MemPlace} (hv:Value.okWide P W r b0 t v)
  (h:DataW.Trod enc P W base spare held t v d p) (hw: ∀n∈d.weights P t,n≤B): ∃n xs,Shp B P n t [.sl false (P.cellsOf e) xs]∧Qa num [] W (mW W) (.sl false (P.cellsOf e) xs) v:=by
 obtain⟨a,len,cap,rfl⟩:=okWide_slice hu hv;obtain⟨fuel,hf⟩:=h;obtain⟨avs,h1,h2,h3,h4⟩:=J8 (num:=num) (β:=[]) hS fuel t _ _ ht hf hw;cases fuel with
 | zero=>simp[Shp]at h1
 | succ n=>
  have h1':=h1;simp only[Shp,hu]at h1;obtain⟨xs,rfl,hb,hx⟩:=h1;refine⟨n+1,xs,h1',?_⟩;simp only[ZB]at h4;obtain⟨⟨u,h5,h6⟩,_⟩:=h4;simp[Value.cells]at h5;subst h5;exact h6.2
end
end Go.Proofs.YthpfccfeelhpeaaGreatDoor
