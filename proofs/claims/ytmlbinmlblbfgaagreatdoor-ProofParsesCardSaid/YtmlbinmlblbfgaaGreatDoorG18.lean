/-
  SeatRead.
-/
import Derived.Test.YtmlbinmlblbfgaaGreatDoorG10
import Derived.Test.YtmlbinmlblbfgaaGreatDoorG17
import Derived.Test.YtmlbinmlblbfgaaGreatDoorChecked
set_option linter.all false
namespace Go.Proofs.YtmlbinmlblbfgaaGreatDoor
open Go.Am
def QkF:List TypeId:=[3,9,4,5,34,32,40,43,22]
theorem QdP:FW Tryz.prog QkF=true:=by kernel_rfl
theorem ON {α:Type} {f:α→List AV}: ∀{xs:List (List AV)},(∀x∈xs,∃a,x=f a)→∃l:List α,xs=l.map f
 | [],_=>⟨[],rfl⟩
 | x:: xs,h=>by
  obtain⟨a,ha⟩:=h x (by simp);obtain⟨l,hl⟩:=ON (xs:=xs) fun y hy=>h y (by simp[hy]);exact⟨a:: l,by simp[ha,hl]⟩
theorem Ld {α:Type} {f:α→List AV} {q:α→Prop}: ∀{xs:List (List AV)},(∀x∈xs,∃a,x=f a∧q a)→∃l:List α,xs=l.map f∧∀a∈l,q a
 | [],_=>⟨[],rfl,by simp⟩
 | x:: xs,h=>by
  obtain⟨a,ha,hq⟩:=h x (by simp);obtain⟨l,hl,hql⟩:=Ld (xs:=xs) fun y hy=>h y (by simp[hy]);refine⟨a:: l,by simp[ha,hl],fun b hb=> ?_⟩;rcases List.mem_cons.1 hb with rfl | hb
  ·exact hq
  ·exact hql b hb
theorem S6 {B n:Nat} {avs:List AV} (h:Shp B Tryz.prog n 3 avs): ∃i,avs=[.int .i64 i]:=by
 cases n with
 | zero=>simp[Shp]at h
 | succ n=>
  simp only[Shp,Tryz.underlying3]at h;obtain⟨i,h1,_⟩:=h;exact⟨i,h1⟩
theorem QdK {B n:Nat} {avs:List AV} (h:Shp B Tryz.prog n 9 avs): ∃s:List UInt8,avs=[.str s]∧s.length≤B:=by
 cases n with
 | zero=>simp[Shp]at h
 | succ n=>
  simp only[Shp,Tryz.underlying9]at h;exact h
theorem Qcj:Tryz.prog.cellsOf 34=4:=by kernel_rfl
theorem Qa3 {B:Nat}: ∀(n:Nat) (avs:List AV),Shp B Tryz.prog n 34 avs→∃t:Tm,avs=Ql t:=by
 intro n
 induction n using Nat.strongRecOn with
 | ind n ih=>
  intro avs h;cases n with
  | zero=>simp[Shp]at h
  | succ n=>
   simp only[Shp,Tryz.underlying34,Jq]at h;obtain⟨p1,q1,rfl,h1,p2,q2,rfl,h2,p3,q3,rfl,h3,p4,q4,rfl,h4,rfl⟩:=h;obtain⟨k,rfl⟩:=S6 h1;obtain⟨s,rfl,_⟩:=QdK h2;obtain⟨so,rfl⟩:=S6 h3;cases n with
   | zero=>simp[Shp]at h4
   | succ n=>
    simp only[Shp,Tryz.underlying32]at h4;obtain⟨xs,rfl,_,hx⟩:=h4;obtain⟨l,rfl⟩:=ON (f:=Ql) (xs:=xs) fun x hxx=>ih n (by omega) x (hx x hxx);exact⟨.mk k s so l,by simp[Ql,VX,Qcj]⟩
theorem Qg1:Tryz.prog.cellsOf 3=1:=by kernel_rfl
theorem QgV:Tryz.prog.bytesOf 3=8:=by kernel_rfl
theorem Hc {B n:Nat} {avs:List AV} (h:Shp B Tryz.prog n 40 avs): ∃l:List Int,avs=[.sl false 1 (ZD l)]∧l.length*8≤B:=by
 cases n with
 | zero=>simp[Shp]at h
 | succ n=>
  simp only[Shp,Tryz.underlying40]at h;obtain⟨xs,rfl,hb,hx⟩:=h;obtain⟨l,rfl⟩:=ON (f:=fun i:Int=>[AV.int .i64 i]) (xs:=xs) fun x hxx=>S6 (hx x hxx);rw[QgV]at hb;exact⟨l,by rw[Qg1];rfl,by simpa using hb⟩
theorem Qck:Tryz.prog.cellsOf 43=8:=by kernel_rfl
theorem QbQ:Tryz.prog.bytesOf 43=120:=by kernel_rfl
theorem QdJ {B n:Nat} {avs:List AV} (h:Shp B Tryz.prog n 43 avs): ∃d:Ded,avs=Zi d∧d.a.length*8≤B∧d.c.length*8≤B:=by
 cases n with
 | zero=>simp[Shp]at h
 | succ n=>
  simp only[Shp,Tryz.underlying43,Jq]at h;obtain⟨p1,q1,rfl,h1,p2,q2,rfl,h2,p3,q3,rfl,h3,p4,q4,rfl,h4,p5,q5,rfl,h5,rfl⟩:=h;obtain⟨r,rfl⟩:=S6 h1;obtain⟨m,rfl⟩:=S6 h2;obtain⟨a,rfl,ha⟩:=Hc h3;obtain⟨c,rfl,hc⟩:=Hc h4;obtain⟨t,rfl⟩:=Qa3 _ _ h5;exact⟨⟨r,m,a,c,t⟩,by simp[Zi],ha,hc⟩
theorem Qa2 {B n:Nat} {avs:List AV} (h:Shp B Tryz.prog n 22 avs): ∃l:List Ded,avs=[.sl false 8 (Zh l)]∧l.length*120≤B∧∀d∈l,d.a.length*8≤B∧d.c.length*8≤B:=by
 cases n with
 | zero=>simp[Shp]at h
 | succ n=>
  simp only[Shp,Tryz.underlying22]at h;obtain⟨xs,rfl,hb,hx⟩:=h;obtain⟨l,rfl,hl⟩:=Ld (f:=Zi) (q:=fun d=>d.a.length*8≤B∧d.c.length*8≤B) (xs:=xs) fun x hxx=>QdJ (hx x hxx);rw[QbQ]at hb;exact⟨l,by rw[Qck];rfl,by simpa using hb,hl⟩
section
open Go.RowKit Go.ChangeShapes Go.WideShapes
variable {P:Program} {num:Nat→Option Nat} {W:World} {H:Type} {enc:TypeId×Value→H} {S:List TypeId} {base b0:Nat} {spare:Nat→Bool} {held:Bool} {r:Reach}
theorem Cx [Dr] {B:Nat} (hS:FW P S=true) {t e:TypeId} (ht:t∈S) (hu:P.underlying t=some (.slice e)) {v:Value} {d:DataW H} {p:List MemPlace} (hv:Value.okWide P W r b0 t v)
  (h:DataW.Trod enc P W base spare held t v d p) (hw: ∀n∈d.weights P t,n≤B): ∃n xs,Shp B P n t [.sl false (P.cellsOf e) xs]∧Qa num [] W (mW W) (.sl false (P.cellsOf e) xs) v:=by
 obtain⟨a,len,cap,rfl⟩:=okWide_slice hu hv;obtain⟨fuel,hf⟩:=h;obtain⟨avs,h1,h2,h3,h4⟩:=Ew (num:=num) (β:=[]) hS fuel t _ _ ht hf hw;cases fuel with
 | zero=>simp[Shp]at h1
 | succ n=>
  have h1':=h1;simp only[Shp,hu]at h1;obtain⟨xs,rfl,hb,hx⟩:=h1;refine⟨n+1,xs,h1',?_⟩;simp only[Z2]at h4;obtain⟨⟨u,h5,h6⟩,_⟩:=h4;simp[Value.cells]at h5;subst h5;exact h6.2
end
end Go.Proofs.YtmlbinmlblbfgaaGreatDoor
