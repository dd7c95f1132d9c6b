/-
  SeatRead.
-/
import Derived.Test.YtpgbndmkiiakaaaGreatDoorG09
import Derived.Test.YtpgbndmkiiakaaaGreatDoorG21
import Derived.Test.YtpgbndmkiiakaaaGreatDoorChecked
set_option linter.unusedVariables false
set_option linter.unusedSimpArgs false
namespace Go.Proofs.YtpgbndmkiiakaaaGreatDoor
open Go.Am
def QoX:List TypeId:=[3,9,4,5,79,44,26,22,24,28,46]
theorem IU:Qaz Tryz.prog QoX=true:=by kernel_rfl
theorem Kr {α:Type} {f:α→List AV}: ∀{xs:List (List AV)},(∀x∈xs,∃a,x=f a)→∃l:List α,xs=l.map f
 | [],_=>⟨[],rfl⟩
 | x:: xs,h=>by
  obtain⟨a,ha⟩:=h x (by simp);obtain⟨l,hl⟩:=Kr (xs:=xs) fun y hy=>h y (by simp[hy]);exact⟨a:: l,by simp[ha,hl]⟩
theorem Ae {n:Nat} {avs:List AV} (h:Shp Tryz.prog n 3 avs): ∃i,avs=[.int .i64 i]:=by
 cases n with
 | zero=>simp[Shp]at h
 | succ n=>
  simp only[Shp,Tryz.underlying3]at h;obtain⟨i,h1,_⟩:=h;exact⟨i,h1⟩
theorem Qkv {n:Nat} {avs:List AV} (h:Shp Tryz.prog n 9 avs): ∃s:List UInt8,avs=[.str s]∧s.length≤reachBytes:=by
 cases n with
 | zero=>simp[Shp]at h
 | succ n=>
  simp only[Shp,Tryz.underlying9]at h;exact h
theorem Bx:Tryz.prog.cellsOf 26=4:=by kernel_rfl
theorem Qh1:Tryz.prog.bytesOf 26=56:=by kernel_rfl
theorem Dt: ∀(n:Nat) (avs:List AV),Shp Tryz.prog n 26 avs→∃t:Tm,avs=Qa t:=by
 intro n
 induction n using Nat.strongRecOn with
 | ind n ih=>
  intro avs h;cases n with
  | zero=>simp[Shp]at h
  | succ n=>
   simp only[Shp,Tryz.underlying26,FR]at h;obtain⟨p1,q1,rfl,h1,p2,q2,rfl,h2,p3,q3,rfl,h3,p4,q4,rfl,h4,rfl⟩:=h;obtain⟨k,rfl⟩:=Ae h1;obtain⟨s,rfl,_⟩:=Qkv h2;obtain⟨so,rfl⟩:=Ae h3;cases n with
   | zero=>simp[Shp]at h4
   | succ n=>
    simp only[Shp,Tryz.underlying22]at h4;obtain⟨xs,rfl,_,hx⟩:=h4;obtain⟨l,rfl⟩:=Kr (f:=Qa) (xs:=xs) fun x hxx=>ih n (by omega) x (hx x hxx);exact⟨.mk k s so l,by simp[Qa,WD,Bx]⟩
theorem HG {n:Nat} {avs:List AV} (h:Shp Tryz.prog n 22 avs): ∃l:List Tm,avs=[.sl false 4 (encTs l)]∧l.length*56≤reachBytes:=by
 cases n with
 | zero=>simp[Shp]at h
 | succ n=>
  simp only[Shp,Tryz.underlying22]at h;obtain⟨xs,rfl,hb,hx⟩:=h;obtain⟨l,rfl⟩:=Kr (f:=Qa) (xs:=xs) fun x hxx=>Dt n x (hx x hxx);rw[Qh1]at hb;exact⟨l,by rw[WD,Bx],by simpa using hb⟩
theorem HF {n:Nat} {avs:List AV} (h:Shp Tryz.prog n 24 avs): ∃f:Fr,avs=Qj f:=by
 cases n with
 | zero=>simp[Shp]at h
 | succ n=>
  simp only[Shp,Tryz.underlying24,FR]at h;obtain⟨p1,q1,rfl,h1,p2,q2,rfl,h2,rfl⟩:=h;obtain⟨a,rfl,_⟩:=HG h1;obtain⟨b,rfl,_⟩:=HG h2;exact⟨⟨a,b⟩,by simp[Qj]⟩
section
open Go.RowKit Go.ChangeShapes Go.WideShapes
variable {P:Program} {num:Nat→Option Nat} {W:World} {H:Type} {enc:TypeId×Value→H} {S:List TypeId} {base b0:Nat} {spare:Nat→Bool} {held:Bool} {r:Reach}
end
end Go.Proofs.YtpgbndmkiiakaaaGreatDoor
