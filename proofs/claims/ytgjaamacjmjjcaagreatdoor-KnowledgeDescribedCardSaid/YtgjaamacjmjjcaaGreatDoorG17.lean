/-
  SeatRead.
-/
import Derived.Test.YtgjaamacjmjjcaaGreatDoorG07
import Derived.Test.YtgjaamacjmjjcaaGreatDoorG16
import Derived.Test.YtgjaamacjmjjcaaGreatDoorChecked
set_option linter.all false
namespace Go.Proofs.YtgjaamacjmjjcaaGreatDoor
open Go.Am
open Go.RowKit Go.ChangeShapes Go.WideShapes in
theorem law_callsN [Dr] {P:Program} {num:Nat→Option Nat} {tb:Nat→Option AFn} {W:World} (hF:CM P num Ry tb) {f g:Nat} (hnum:num f=some g) {args:List AV} {vs:Array Value} (hok:V0 args=true) (hvs:vs.size=args.length)
  (hrep:∀(i:Nat) (c:AV),args[i]? =some c→∃u,vs[i]? =some u∧Qi num [] W (mW W) c u) (hc:call tb f args []=some (.bool true,[])):
  Calls P g vs W fun e W'=>e= .returned (.bool true)∧Below W.heap.size W W':=by
 obtain ⟨n,hn⟩:=Om.1 hc
 refine (Ho hF n f g args [] _ _ hnum hn hok W (mW W) [] (fun _=>none) vs trivial (Nat.zero_le _) hvs hrep ⟨rfl,fun i cs k h=>by simp at h⟩ (fun b p h=>by cases h)).mono fun e W' he=>?_
 obtain ⟨v,m',β',ν',he,_,hS,_,_,hr,_,_⟩:=he
 simp only [Qi] at hr
 subst hr
 exact ⟨he,hS.os,hS.tape,hS.output,hS.size,fun k hk=>(hS.same k hk (fun ⟨p,hp⟩=>by cases hp)).1⟩
def Qxm:List TypeId:=[3,9,4,5,35,34,24,22]
theorem Sk:CJ Tryz.prog Qxm=true:=by kernel_rfl
theorem H4 {α:Type} {f:α→List AV}: ∀{xs:List (List AV)},(∀x∈xs,∃a,x=f a)→∃l:List α,xs=l.map f
 | [],_=>⟨[],rfl⟩
 | x:: xs,h=>by
  obtain⟨a,ha⟩:=h x (by simp);obtain⟨l,hl⟩:=H4 (xs:=xs) fun y hy=>h y (by simp[hy]);exact⟨a:: l,by simp[ha,hl]⟩
theorem IA {α:Type} {f:α→List AV} {q:α→Prop}: ∀{xs:List (List AV)},(∀x∈xs,∃a,x=f a∧q a)→∃l:List α,xs=l.map f∧∀a∈l,q a
 | [],_=>⟨[],rfl,by simp⟩
 | x:: xs,h=>by
  obtain⟨a,ha,hq⟩:=h x (by simp);obtain⟨l,hl,hql⟩:=IA (xs:=xs) fun y hy=>h y (by simp[hy]);refine⟨a:: l,by simp[ha,hl],fun b hb=> ?_⟩;rcases List.mem_cons.1 hb with rfl | hb
  ·exact hq
  ·exact hql b hb
theorem Qev {B n:Nat} {avs:List AV} (h:Shp B Tryz.prog n 3 avs): ∃i,avs=[.int .i64 i]:=by
 cases n with
 | zero=>simp[Shp]at h
 | succ n=>
  simp only[Shp,Tryz.underlying3]at h;obtain⟨i,h1,_⟩:=h;exact⟨i,h1⟩
theorem Qq5 {B n:Nat} {avs:List AV} (h:Shp B Tryz.prog n 9 avs): ∃s:List UInt8,avs=[.str s]∧s.length≤B:=by
 cases n with
 | zero=>simp[Shp]at h
 | succ n=>
  simp only[Shp,Tryz.underlying9]at h;exact h
theorem Qwy {i:Int} (h: (Lit.int .u8 i).wf=true): ∃n:Nat,i=n∧n < 256:=by
 simp only[Lit.wf]at h;have h2:IntKind.u8.min≤i∧i≤IntKind.u8.max:=by simpa using h
 have h3:IntKind.u8.min=0:=rfl;have h4:IntKind.u8.max=255:=rfl;exact⟨i.toNat,by omega,by omega⟩
theorem QuT {B n:Nat} {avs:List AV} (h:Shp B Tryz.prog n 5 avs): ∃i:Nat,avs=[.int .u8 (i:Int)]∧i < 256:=by
 cases n with
 | zero=>simp[Shp]at h
 | succ n=>
  simp only[Shp,Tryz.underlying5]at h;obtain⟨i,rfl,hw⟩:=h;obtain⟨k,rfl,hk⟩:=Qwy hw;exact⟨k,rfl,hk⟩
theorem QdA:Tryz.prog.cellsOf 24=4:=by kernel_rfl
theorem QnN:Tryz.prog.bytesOf 24=56:=by kernel_rfl
theorem Gn {B:Nat}: ∀(n:Nat) (avs:List AV),Shp B Tryz.prog n 24 avs→∃t:Tm,avs=Qd t:=by
 intro n
 induction n using Nat.strongRecOn with
 | ind n ih=>
  intro avs h;cases n with
  | zero=>simp[Shp]at h
  | succ n=>
   simp only[Shp,Tryz.underlying24,Qfe]at h;obtain⟨p1,q1,rfl,h1,p2,q2,rfl,h2,p3,q3,rfl,h3,p4,q4,rfl,h4,rfl⟩:=h;obtain⟨k,rfl⟩:=Qev h1;obtain⟨s,rfl,_⟩:=Qq5 h2;obtain⟨so,rfl⟩:=Qev h3;cases n with
   | zero=>simp[Shp]at h4
   | succ n=>
    simp only[Shp,Tryz.underlying22]at h4;obtain⟨xs,rfl,_,hx⟩:=h4;obtain⟨l,rfl⟩:=H4 (f:=Qd) (xs:=xs) fun x hxx=>ih n (by omega) x (hx x hxx);exact⟨.mk k s so l,by simp[Qd,Zr,QdA]⟩
theorem Pn {B n:Nat} {avs:List AV} (h:Shp B Tryz.prog n 22 avs): ∃l:List Tm,avs=[.sl false 4 (Qa l)]∧l.length*56≤B:=by
 cases n with
 | zero=>simp[Shp]at h
 | succ n=>
  simp only[Shp,Tryz.underlying22]at h;obtain⟨xs,rfl,hb,hx⟩:=h;obtain⟨l,rfl⟩:=H4 (f:=Qd) (xs:=xs) fun x hxx=>Gn n x (hx x hxx);rw[QnN]at hb;exact⟨l,by rw[Zr,QdA],by simpa using hb⟩
theorem Qto:Tryz.prog.cellsOf 5=1:=by kernel_rfl
theorem Qtl:Tryz.prog.bytesOf 5=1:=by kernel_rfl
theorem D9 {B n:Nat} {avs:List AV} (h:Shp B Tryz.prog n 35 avs): ∃b:List Nat,avs=[.sl false 1 (V6 b)]∧b.length≤B∧∀k∈b,k < 256:=by
 cases n with
 | zero=>simp[Shp]at h
 | succ n=>
  simp only[Shp,Tryz.underlying35]at h;obtain⟨xs,rfl,hb,hx⟩:=h;obtain⟨l,rfl,hl⟩:=IA (f:=fun k:Nat=>[AV.int .u8 (k:Int)]) (q:=fun k=>k < 256) (xs:=xs) fun x hxx=>QuT (hx x hxx);rw[Qtl]at hb;exact⟨l,by rw[Qto];rfl,by simpa using hb,hl⟩
theorem Qpo:Tryz.prog.cellsOf 35=1:=by kernel_rfl
theorem QnO:Tryz.prog.bytesOf 35=24:=by kernel_rfl
theorem Qkh {B n:Nat} {avs:List AV} (h:Shp B Tryz.prog n 34 avs): ∃l:List (List Nat),avs=[.sl false 1 (Vm l)]∧l.length*24≤B∧∀b∈l,∀k∈b,k < 256:=by
 cases n with
 | zero=>simp[Shp]at h
 | succ n=>
  simp only[Shp,Tryz.underlying34]at h;obtain⟨xs,rfl,hb,hx⟩:=h;obtain⟨l,rfl,hl⟩:=IA (f:=fun b:List Nat=>[AV.sl false 1 (V6 b)]) (q:=fun b=>∀k∈b,k < 256) (xs:=xs) fun x hxx=>by
   obtain⟨b,h1,_,h2⟩:=D9 (hx x hxx);exact⟨b,h1,h2⟩
  rw[QnO]at hb;exact⟨l,by rw[Qpo];rfl,by simpa using hb,hl⟩
section
open Go.RowKit Go.ChangeShapes Go.WideShapes
variable {P:Program} {num:Nat→Option Nat} {W:World} {H:Type} {enc:TypeId×Value→H} {S:List TypeId} {base b0:Nat} {spare:Nat→Bool} {held:Bool} {r:Reach}
theorem TB [Dr] {B:Nat} (hS:CJ P S=true) {t e:TypeId} (ht:t∈S) (hu:P.underlying t=some (.slice e)) {v:Value} {d:DataW H} {p:List MemPlace} (hv:Value.okWide P W r b0 t v)
  (h:DataW.Trod enc P W base spare held t v d p) (hw: ∀n∈d.weights P t,n≤B): ∃n xs,Shp B P n t [.sl false (P.cellsOf e) xs]∧Qi num [] W (mW W) (.sl false (P.cellsOf e) xs) v:=by
 obtain⟨a,len,cap,rfl⟩:=okWide_slice hu hv;obtain⟨fuel,hf⟩:=h;obtain⟨avs,h1,h2,h3,h4⟩:=Ei (num:=num) (β:=[]) hS fuel t _ _ ht hf hw;cases fuel with
 | zero=>simp[Shp]at h1
 | succ n=>
  have h1':=h1;simp only[Shp,hu]at h1;obtain⟨xs,rfl,hb,hx⟩:=h1;refine⟨n+1,xs,h1',?_⟩;simp only[XN]at h4;obtain⟨⟨u,h5,h6⟩,_⟩:=h4;simp[Value.cells]at h5;subst h5;exact h6.2
end
end Go.Proofs.YtgjaamacjmjjcaaGreatDoor
