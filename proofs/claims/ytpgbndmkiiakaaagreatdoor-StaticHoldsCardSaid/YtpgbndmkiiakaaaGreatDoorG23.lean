/-
  SeatRead.
-/
import Derived.Test.YtpgbndmkiiakaaaGreatDoorG09
import Derived.Test.YtpgbndmkiiakaaaGreatDoorG22
import Derived.Test.YtpgbndmkiiakaaaGreatDoorChecked
set_option linter.unusedVariables false
set_option linter.unusedSimpArgs false
namespace Go.Proofs.YtpgbndmkiiakaaaGreatDoor
open Go.Am
def QjU:List TypeId:=[3,9,4,5,79,44,26,22,24,28,46]
theorem O4:DN Tryz.prog QjU=true:=by kernel_rfl
theorem NG {α:Type} {f:α→List AV}: ∀{xs:List (List AV)},(∀x∈xs,∃a,x=f a)→∃l:List α,xs=l.map f
 | [],_=>⟨[],rfl⟩
 | x:: xs,h=>by
  obtain⟨a,ha⟩:=h x (by simp)
  obtain⟨l,hl⟩:=NG (xs:=xs) fun y hy=>h y (by simp[hy])
  exact⟨a:: l,by simp[ha,hl]⟩
theorem Of {α:Type} {f:α→List AV} {q:α→Prop}: ∀{xs:List (List AV)},(∀x∈xs,∃a,x=f a∧q a)→∃l:List α,xs=l.map f∧∀a∈l,q a
 | [],_=>⟨[],rfl,by simp⟩
 | x:: xs,h=>by
  obtain⟨a,ha,hq⟩:=h x (by simp)
  obtain⟨l,hl,hql⟩:=Of (xs:=xs) fun y hy=>h y (by simp[hy])
  refine⟨a:: l,by simp[ha,hl],fun b hb=> ?_⟩
  rcases List.mem_cons.1 hb with rfl | hb
  ·exact hq
  ·exact hql b hb
theorem EB {n:Nat} {avs:List AV} (h:Shp Tryz.prog n 3 avs): ∃i,avs=[.int .i64 i]:=by
 cases n with
 | zero=>simp[Shp]at h
 | succ n=>
  simp only[Shp,Tryz.underlying3]at h
  obtain⟨i,h1,_⟩:=h
  exact⟨i,h1⟩
theorem QfZ {n:Nat} {avs:List AV} (h:Shp Tryz.prog n 9 avs): ∃s:List UInt8,avs=[.str s]∧s.length≤reachBytes:=by
 cases n with
 | zero=>simp[Shp]at h
 | succ n=>
  simp only[Shp,Tryz.underlying9]at h
  exact h
theorem Qcz {n:Nat} {avs:List AV} (h:Shp Tryz.prog n 4 avs): ∃b:Bool,avs=[.bool b]:=by
 cases n with
 | zero=>simp[Shp]at h
 | succ n=>
  simp only[Shp,Tryz.underlying4]at h
  exact h
theorem Qjk {i:Int} (h: (Lit.int .u8 i).wf=true): ∃n:Nat,i=n∧n < 256:=by
 simp only[Lit.wf]at h
 have h2:IntKind.u8.min≤i∧i≤IntKind.u8.max:=by simpa using h
 have h3:IntKind.u8.min=0:=rfl
 have h4:IntKind.u8.max=255:=rfl
 exact⟨i.toNat,by omega,by omega⟩
theorem QaK {n:Nat} {avs:List AV} (h:Shp Tryz.prog n 5 avs): ∃i:Nat,avs=[.int .u8 (i:Int)]∧i < 256:=by
 cases n with
 | zero=>simp[Shp]at h
 | succ n=>
  simp only[Shp,Tryz.underlying5]at h
  obtain⟨i,rfl,hw⟩:=h
  obtain⟨k,rfl,hk⟩:=Qjk hw
  exact⟨k,rfl,hk⟩
theorem F2:Tryz.prog.cellsOf 26=4:=by kernel_rfl
theorem QdW:Tryz.prog.bytesOf 26=56:=by kernel_rfl
theorem NQ: ∀(n:Nat) (avs:List AV),Shp Tryz.prog n 26 avs→∃t:Tm,avs=Qb t:=by
 intro n
 induction n using Nat.strongRecOn with
 | ind n ih=>
  intro avs h
  cases n with
  | zero=>simp[Shp]at h
  | succ n=>
   simp only[Shp,Tryz.underlying26,Nj]at h
   obtain⟨p1,q1,rfl,h1,p2,q2,rfl,h2,p3,q3,rfl,h3,p4,q4,rfl,h4,rfl⟩:=h
   obtain⟨k,rfl⟩:=EB h1
   obtain⟨s,rfl,_⟩:=QfZ h2
   obtain⟨so,rfl⟩:=EB h3
   cases n with
   | zero=>simp[Shp]at h4
   | succ n=>
    simp only[Shp,Tryz.underlying22]at h4
    obtain⟨xs,rfl,_,hx⟩:=h4
    obtain⟨l,rfl⟩:=NG (f:=Qb) (xs:=xs) fun x hxx=>ih n (by omega) x (hx x hxx)
    exact⟨.mk k s so l,by simp[Qb,XD,F2]⟩
theorem KQ {n:Nat} {avs:List AV} (h:Shp Tryz.prog n 22 avs): ∃l:List Tm,avs=[.sl false 4 (encTs l)]∧l.length*56≤reachBytes:=by
 cases n with
 | zero=>simp[Shp]at h
 | succ n=>
  simp only[Shp,Tryz.underlying22]at h
  obtain⟨xs,rfl,hb,hx⟩:=h
  obtain⟨l,rfl⟩:=NG (f:=Qb) (xs:=xs) fun x hxx=>NQ n x (hx x hxx)
  rw[QdW]at hb
  exact⟨l,by rw[XD,F2],by simpa using hb⟩
theorem QaJ {n:Nat} {avs:List AV} (h:Shp Tryz.prog n 24 avs): ∃f:Fr,avs=Qz f:=by
 cases n with
 | zero=>simp[Shp]at h
 | succ n=>
  simp only[Shp,Tryz.underlying24,Nj]at h
  obtain⟨p1,q1,rfl,h1,p2,q2,rfl,h2,rfl⟩:=h
  obtain⟨a,rfl,_⟩:=KQ h1
  obtain⟨b,rfl,_⟩:=KQ h2
  exact⟨⟨a,b⟩,by simp[Qz]⟩
theorem QhT:Tryz.prog.cellsOf 5=1:=by kernel_rfl
theorem QhQ:Tryz.prog.bytesOf 5=1:=by kernel_rfl
theorem QaI {n:Nat} {avs:List AV} (h:Shp Tryz.prog n 79 avs): ∃b:List Nat,avs=[.sl false 1 (VF b)]∧b.length≤reachBytes∧∀k∈b,k < 256:=by
 cases n with
 | zero=>simp[Shp]at h
 | succ n=>
  simp only[Shp,Tryz.underlying79]at h
  obtain⟨xs,rfl,hb,hx⟩:=h
  obtain⟨l,rfl,hl⟩:=Of (f:=fun k:Nat=>[AV.int .u8 (k:Int)]) (q:=fun k=>k < 256) (xs:=xs) fun x hxx=>QaK (hx x hxx)
  rw[QhQ]at hb
  exact⟨l,by rw[QhT];rfl,by simpa using hb,hl⟩
theorem QeW:Tryz.prog.cellsOf 79=1:=by kernel_rfl
theorem QdX:Tryz.prog.bytesOf 79=24:=by kernel_rfl
theorem KP {n:Nat} {avs:List AV} (h:Shp Tryz.prog n 44 avs): ∃l:List (List Nat),avs=[.sl false 1 (YM l)]∧l.length*24≤reachBytes∧∀b∈l,∀k∈b,k < 256:=by
 cases n with
 | zero=>simp[Shp]at h
 | succ n=>
  simp only[Shp,Tryz.underlying44]at h
  obtain⟨xs,rfl,hb,hx⟩:=h
  obtain⟨l,rfl,hl⟩:=Of (f:=fun b:List Nat=>[AV.sl false 1 (VF b)]) (q:=fun b=>∀k∈b,k < 256) (xs:=xs) fun x hxx=>by
   obtain⟨b,h1,_,h2⟩:=QaI (hx x hxx)
   exact⟨b,h1,h2⟩
  rw[QdX]at hb
  exact⟨l,by rw[QeW];rfl,by simpa using hb,hl⟩
theorem Gl {n:Nat} {avs:List AV} (h:Shp Tryz.prog n 28 avs): ∃q:Tst,avs=WZ q:=by
 cases n with
 | zero=>simp[Shp]at h
 | succ n=>
  simp only[Shp,Tryz.underlying28,Nj]at h
  obtain⟨p1,q1,rfl,h1,p2,q2,rfl,h2,p3,q3,rfl,h3,rfl⟩:=h
  obtain⟨a,rfl⟩:=NQ _ _ h1
  obtain⟨b,rfl⟩:=NQ _ _ h2
  obtain⟨c,rfl⟩:=Qcz h3
  exact⟨⟨a,b,c⟩,by simp[WZ]⟩
theorem Cd {n:Nat} {avs:List AV} (h:Shp Tryz.prog n 46 avs): ∃d:MU,avs=TO d∧d.l.length*24≤reachBytes∧d.r.length*24≤reachBytes∧(∀b∈d.l,∀k∈b,k < 256)∧(∀b∈d.r,∀k∈b,k < 256)∧d.h < 256:=by
 cases n with
 | zero=>simp[Shp]at h
 | succ n=>
  simp only[Shp,Tryz.underlying46,Nj]at h
  obtain⟨p1,q1,rfl,h1,p2,q2,rfl,h2,p3,q3,rfl,h3,rfl⟩:=h
  obtain⟨a,rfl,ha,hk⟩:=KP h1
  obtain⟨b,rfl,hb,hl⟩:=KP h2
  obtain⟨c,rfl,hc⟩:=QaK h3
  exact⟨⟨a,b,c⟩,by simp[TO],ha,hb,hk,hl,hc⟩
section
open Go.RowKit Go.ChangeShapes Go.WideShapes
variable {P:Program} {num:Nat→Option Nat} {W:World} {H:Type} {enc:TypeId×Value→H} {S:List TypeId} {base b0:Nat} {spare:Nat→Bool} {held:Bool} {r:Reach}
end
end Go.Proofs.YtpgbndmkiiakaaaGreatDoor
