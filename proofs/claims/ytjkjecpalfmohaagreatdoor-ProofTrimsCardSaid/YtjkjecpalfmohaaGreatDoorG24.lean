/-
  SeatRead.
-/
import Derived.Test.YtjkjecpalfmohaaGreatDoorG10
import Derived.Test.YtjkjecpalfmohaaGreatDoorG23
import Derived.Test.YtjkjecpalfmohaaGreatDoorChecked
set_option linter.all false
namespace Go.Proofs.YtjkjecpalfmohaaGreatDoor
open Go.Am
def QsG:List TypeId:=[3,9,4,5,31,22,29,33,23]
theorem Qaf:Qbu Tryz.prog QsG=true:=by kernel_rfl
theorem Mh {α:Type} {f:α→List AV}: ∀{xs:List (List AV)},(∀x∈xs,∃a,x=f a)→∃l:List α,xs=l.map f
 | [],_=>⟨[],rfl⟩
 | x:: xs,h=>by
  obtain⟨a,ha⟩:=h x (by simp);obtain⟨l,hl⟩:=Mh (xs:=xs) fun y hy=>h y (by simp[hy]);exact⟨a:: l,by simp[ha,hl]⟩
theorem H5 {α:Type} {f:α→List AV} {q:α→Prop}: ∀{xs:List (List AV)},(∀x∈xs,∃a,x=f a∧q a)→∃l:List α,xs=l.map f∧∀a∈l,q a
 | [],_=>⟨[],rfl,by simp⟩
 | x:: xs,h=>by
  obtain⟨a,ha,hq⟩:=h x (by simp);obtain⟨l,hl,hql⟩:=H5 (xs:=xs) fun y hy=>h y (by simp[hy]);refine⟨a:: l,by simp[ha,hl],fun b hb=> ?_⟩;rcases List.mem_cons.1 hb with rfl | hb
  ·exact hq
  ·exact hql b hb
theorem NI {B n:Nat} {avs:List AV} (h:Shp B Tryz.prog n 3 avs): ∃i,avs=[.int .i64 i]:=by
 cases n with
 | zero=>simp[Shp]at h
 | succ n=>
  simp only[Shp,Tryz.underlying3]at h;obtain⟨i,h1,_⟩:=h;exact⟨i,h1⟩
theorem Qlk {B n:Nat} {avs:List AV} (h:Shp B Tryz.prog n 9 avs): ∃s:List UInt8,avs=[.str s]∧s.length≤B:=by
 cases n with
 | zero=>simp[Shp]at h
 | succ n=>
  simp only[Shp,Tryz.underlying9]at h;exact h
theorem Ao:Tryz.prog.cellsOf 31=4:=by kernel_rfl
theorem Qiw:Tryz.prog.bytesOf 31=56:=by kernel_rfl
theorem CP {B:Nat}: ∀(n:Nat) (avs:List AV),Shp B Tryz.prog n 31 avs→∃t:Tm,avs=Qf t:=by
 intro n
 induction n using Nat.strongRecOn with
 | ind n ih=>
  intro avs h;cases n with
  | zero=>simp[Shp]at h
  | succ n=>
   simp only[Shp,Tryz.underlying31,EI]at h;obtain⟨p1,q1,rfl,h1,p2,q2,rfl,h2,p3,q3,rfl,h3,p4,q4,rfl,h4,rfl⟩:=h;obtain⟨k,rfl⟩:=NI h1;obtain⟨s,rfl,_⟩:=Qlk h2;obtain⟨so,rfl⟩:=NI h3;cases n with
   | zero=>simp[Shp]at h4
   | succ n=>
    simp only[Shp,Tryz.underlying22]at h4;obtain⟨xs,rfl,_,hx⟩:=h4;obtain⟨l,rfl⟩:=Mh (f:=Qf) (xs:=xs) fun x hxx=>ih n (by omega) x (hx x hxx);exact⟨.mk k s so l,by simp[Qf,YU,Ao]⟩
theorem Qfs {B n:Nat} {avs:List AV} (h:Shp B Tryz.prog n 22 avs): ∃l:List Tm,avs=[.sl false 4 (Qb l)]∧l.length*56≤B:=by
 cases n with
 | zero=>simp[Shp]at h
 | succ n=>
  simp only[Shp,Tryz.underlying22]at h;obtain⟨xs,rfl,hb,hx⟩:=h;obtain⟨l,rfl⟩:=Mh (f:=Qf) (xs:=xs) fun x hxx=>CP n x (hx x hxx);rw[Qiw]at hb;exact⟨l,by rw[YU,Ao],by simpa using hb⟩
theorem QoD:Tryz.prog.cellsOf 3=1:=by kernel_rfl
theorem Qox:Tryz.prog.bytesOf 3=8:=by kernel_rfl
theorem CO {B n:Nat} {avs:List AV} (h:Shp B Tryz.prog n 29 avs): ∃l:List Int,avs=[.sl false 1 (ZF l)]∧l.length*8≤B:=by
 cases n with
 | zero=>simp[Shp]at h
 | succ n=>
  simp only[Shp,Tryz.underlying29]at h;obtain⟨xs,rfl,hb,hx⟩:=h;obtain⟨l,rfl⟩:=Mh (f:=fun i:Int=>[AV.int .i64 i]) (xs:=xs) fun x hxx=>NI (hx x hxx);rw[Qox]at hb;exact⟨l,by rw[QoD];rfl,by simpa using hb⟩
theorem QjP:Tryz.prog.cellsOf 33=8:=by kernel_rfl
theorem Qix:Tryz.prog.bytesOf 33=120:=by kernel_rfl
theorem Qlj {B n:Nat} {avs:List AV} (h:Shp B Tryz.prog n 33 avs): ∃d:Ded,avs=Za d∧d.a.length*8≤B∧d.c.length*8≤B:=by
 cases n with
 | zero=>simp[Shp]at h
 | succ n=>
  simp only[Shp,Tryz.underlying33,EI]at h;obtain⟨p1,q1,rfl,h1,p2,q2,rfl,h2,p3,q3,rfl,h3,p4,q4,rfl,h4,p5,q5,rfl,h5,rfl⟩:=h;obtain⟨r,rfl⟩:=NI h1;obtain⟨m,rfl⟩:=NI h2;obtain⟨a,rfl,ha⟩:=CO h3;obtain⟨c,rfl,hc⟩:=CO h4;obtain⟨t,rfl⟩:=CP _ _ h5;exact⟨⟨r,m,a,c,t⟩,by simp[Za],ha,hc⟩
theorem QhH {B n:Nat} {avs:List AV} (h:Shp B Tryz.prog n 23 avs): ∃l:List Ded,avs=[.sl false 8 (QD l)]∧l.length*120≤B∧∀d∈l,d.a.length*8≤B∧d.c.length*8≤B:=by
 cases n with
 | zero=>simp[Shp]at h
 | succ n=>
  simp only[Shp,Tryz.underlying23]at h;obtain⟨xs,rfl,hb,hx⟩:=h;obtain⟨l,rfl,hl⟩:=H5 (f:=Za) (q:=fun d=>d.a.length*8≤B∧d.c.length*8≤B) (xs:=xs) fun x hxx=>Qlj (hx x hxx);rw[Qix]at hb;exact⟨l,by rw[QjP];rfl,by simpa using hb,hl⟩
section
open Go.RowKit Go.ChangeShapes Go.WideShapes
variable {P:Program} {num:Nat→Option Nat} {W:World} {H:Type} {enc:TypeId×Value→H} {S:List TypeId} {base b0:Nat} {spare:Nat→Bool} {held:Bool} {r:Reach}
theorem Hz [Dr] {B:Nat} (hS:Qbu P S=true) {t e:TypeId} (ht:t∈S) (hu:P.underlying t=some (.slice e)) {v:Value} {d:DataW H} {p:List MemPlace} (hv:Value.okWide P W r b0 t v)
  (h:DataW.Trod enc P W base spare held t v d p) (hw: ∀n∈d.weights P t,n≤B): ∃n xs,Shp B P n t [.sl false (P.cellsOf e) xs]∧Qg num [] W (mW W) (.sl false (P.cellsOf e) xs) v:=by
 obtain⟨a,len,cap,rfl⟩:=okWide_slice hu hv;obtain⟨fuel,hf⟩:=h;obtain⟨avs,h1,h2,h3,h4⟩:=QbY (num:=num) (β:=[]) hS fuel t _ _ ht hf hw;cases fuel with
 | zero=>simp[Shp]at h1
 | succ n=>
  have h1':=h1;simp only[Shp,hu]at h1;obtain⟨xs,rfl,hb,hx⟩:=h1;refine⟨n+1,xs,h1',?_⟩;simp only[Y6]at h4;obtain⟨⟨u,h5,h6⟩,_⟩:=h4;simp[Value.cells]at h5;subst h5;exact h6.2
end
end Go.Proofs.YtjkjecpalfmohaaGreatDoor
