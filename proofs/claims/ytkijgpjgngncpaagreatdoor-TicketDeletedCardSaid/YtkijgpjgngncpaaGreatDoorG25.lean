/-
  Gt34, Gt35.
-/
import Derived.Test.YtkijgpjgngncpaaGreatDoorG24
set_option linter.all false
namespace Go.Am
set_option maxRecDepth 8000
def chP (nm:List UInt8):Int→Int→List Ep→Prop
 | _,_,[]=>False
 | n,_,[k]=>k.n=n∧k.e=0∧k.key=Qt nm n
 | n,lo,k:: k':: ks=>k.n=n∧1≤k.e∧lo≤k.e∧k.key=Qt nm n∧chP nm (n+1) k.e (k':: ks)
def loE:Option Ep→Int
 | none=>0
 | some p=>p.e
theorem P5 (s:Srv) (b:Int) (hb:b=s.epoch - s.keys.length+1): ∀(ks:List Ep) (i:Nat) (pv:Option Ep),ks≠[]→0≤b→(Yt s i pv ks=true↔chP s.name (b+i) (loE pv) ks)
 | [],_,_,h,_=>absurd rfl h
 | [k],i,pv,_,h0=>by
  have e:s.epoch - s.keys.length+1+i=b+i:=by omega
  simp only[Yt,Vw,chP,e,List.isEmpty_nil,Bool.and_eq_true,Bool.and_true,decide_eq_true_eq,Bool.not_eq_true',decide_eq_false_iff_not,beq_iff_eq,ZW,Bool.true_or];constructor
  ·rintro⟨⟨⟨⟨⟨h1,h2⟩,h3⟩,h4⟩,h5⟩,h6⟩
   have h4:k.e=0:=by simpa using h4.symm
   exact⟨h1,h4,by rw[h3,h1]⟩
  ·rintro⟨h1,h2,h3⟩
   refine⟨⟨⟨⟨⟨h1,by omega⟩,by rw[h3,h1]⟩,by simp[h2]⟩,by omega⟩,?_⟩;cases pv <;> rfl
 | k:: k':: ks,i,pv,_,h0=>by
  have e:s.epoch - s.keys.length+1+i=b+i:=by omega
  have ih:=P5 s b hb (k':: ks) (i+1) (some k) (by simp) h0;have c:b+ ((i+1:Nat):Int)=b+i+1:=by omega
  rw[c]at ih;have hP:Yt s i pv (k:: k':: ks)=(Vw s i false pv k && Yt s (i+1) (some k) (k':: ks)):=rfl;rw[hP,Bool.and_eq_true,ih];simp only[Vw,chP,e,Bool.and_eq_true,decide_eq_true_eq,Bool.not_eq_true',decide_eq_false_iff_not,beq_iff_eq,ZW,Bool.false_or,loE];constructor
  ·rintro⟨⟨⟨⟨⟨⟨h1,h2⟩,h3⟩,h4⟩,h5⟩,h6⟩,h7⟩
   have h4: ¬k.e=0:=by simpa using h4.symm
   refine⟨h1,by omega,?_,by rw[h3,h1],h7⟩;cases pv with
   | none=>simp only[loE];omega
   | some p=>simp at h6;simp only[loE];omega
  ·rintro⟨h1,h2,h3,h4,h5⟩
   refine⟨⟨⟨⟨⟨⟨h1,by omega⟩,by rw[h4,h1]⟩,?_⟩,by omega⟩,?_⟩,h5⟩
   ·have: ¬k.e=0:=by omega
    simp[this]
   ·cases pv with
    | none=>rfl
    | some p=>simp only[loE]at h3;simp;omega
theorem EN {nm:List UInt8}: ∀{ks:List Ep} {n lo:Int},chP nm n lo ks→ks≠[]
 | [],_,_,h=>h.elim
 | _:: _,_,_,_=>by simp
theorem Y9 (s:Srv):Ur s=true↔(1≤s.keys.length∧s.keys.length≤8)∧0≤s.epoch - s.keys.length+1∧chP s.name (s.epoch - s.keys.length+1) 0 s.keys:=by
 simp only[Ur,Bool.and_eq_true,decide_eq_true_eq];constructor
 ·rintro⟨⟨h1,h2⟩,h3⟩
  have hne:s.keys≠[]:=fun h=>by rw[h]at h1;simp at h1
  have h4:=P6 s s.keys 0 none hne;rw[h3]at h4;have h5:=h4.symm;simp only[Bool.and_eq_true,decide_eq_true_eq]at h5;have h0:0≤s.epoch - s.keys.length+1:=by have:=h5.1.2;omega
  have:=(P5 s _ rfl s.keys 0 none hne h0).1 h3;simp only[loE]at this;exact⟨⟨h1,h2⟩,h0,by simpa using this⟩
 ·rintro⟨⟨h1,h2⟩,h0,h3⟩
  exact⟨⟨h1,h2⟩,(P5 s _ rfl s.keys 0 none (EN h3) h0).2 (by simpa[loE]using h3)⟩
theorem Oo {nm:List UInt8}: ∀{ks:List Ep} {n lo:Int},chP nm n lo ks→∀k∈ks,k.key=Qt nm k.n∧n≤k.n∧k.n < n+ks.length∧(k.e=0∨1≤k.e)
 | [],_,_,h,_,_=>h.elim
 | [k],n,lo,h,x,hx=>by
  simp only[List.mem_singleton]at hx;subst hx;obtain⟨h1,h2,h3⟩:=h;exact⟨by rw[h3,h1],by omega,by simp;omega,.inl h2⟩
 | k:: k':: ks,n,lo,h,x,hx=>by
  obtain⟨h1,h2,h3,h4,h5⟩:=h;rcases List.mem_cons.1 hx with rfl | hx
  ·exact⟨by rw[h4,h1],by omega,by simp;omega,.inr h2⟩
  ·obtain⟨i1,i2,i3,i4⟩:=Oo h5 x hx;refine⟨i1,by omega,?_,i4⟩;simp only[List.length_cons]at i3 ⊢;omega
theorem QdN {nm:List UInt8}: ∀{ks:List Ep} {n lo lo':Int},chP nm n lo ks→lo'≤lo→chP nm n lo' ks
 | [],_,_,_,h,_=>h.elim
 | [_],_,_,_,h,_=>h
 | _:: _:: _,_,_,_,⟨h1,h2,h3,h4,h5⟩,hl=>⟨h1,h2,by omega,h4,h5⟩
theorem HB {nm:List UInt8} (E:Int) (hE:1≤E): ∀{ks:List Ep} {n lo:Int},chP nm n lo ks→lo≤E→(∀k∈ks,k.e≤E)→
  chP nm n lo (ks.dropLast ++ (ks.getLast?.toList.map fun k=>{k with e:=E})++ [⟨n+ks.length,0,Qt nm (n+ks.length)⟩])
 | [],_,_,h,_,_=>h.elim
 | [k],n,lo,h,hl,_=>by
  obtain⟨h1,h2,h3⟩:=h;simp[chP,h1,h3];exact⟨hE,hl⟩
 | k:: k':: ks,n,lo,h,hl,hm=>by
  obtain⟨h1,h2,h3,h4,h5⟩:=h;have ih:=HB E hE h5 (hm k (by simp)) (fun x hx=>hm x (by simp[hx]));have e:n+1+ ((k':: ks).length:Int)=n+ ((k:: k':: ks).length:Int):=by simp;omega
  rw[e]at ih;simp only[List.dropLast_cons_cons,List.getLast?_cons_cons,List.cons_append];generalize hL: (k':: ks).dropLast ++ List.map (fun k=>({k with e:=E}:Ep)) (k':: ks).getLast?.toList ++ [⟨n+ ((k:: k':: ks).length:Int),0,Qt nm (n+ ((k:: k':: ks).length:Int))⟩]=L at ih;have hne:L≠[]:=EN ih
  match L,hne with
  | x:: L',_=>exact⟨h1,h2,h3,h4,ih⟩
theorem KW {nm:List UInt8} (now:Int): ∀{ks:List Ep} {n lo:Int},chP nm n lo ks→∃j:Nat,j < ks.length∧ks.filter (X6 now)=ks.drop j∧chP nm (n+j) lo (ks.drop j)∧(now≤lo→j=0)
 | [],_,_,h=>h.elim
 | [k],n,lo,h=>⟨0,by simp,by simp[X6,h.2.1],by simpa using h,fun _=>rfl⟩
 | k:: k':: ks,n,lo,h=>by
  obtain⟨h1,h2,h3,h4,h5⟩:=h;obtain⟨j,i1,i2,i3,i4⟩:=KW now h5;by_cases c:now≤k.e
  ·have hj:=i4 c;subst hj;refine⟨0,by simp,?_,?_,fun _=>rfl⟩
   ·rw[List.filter_cons_of_pos (by simp[X6,c]),i2];simp
   ·have e:n+ ((0:Nat):Int)=n:=by omega
    rw[e];exact⟨h1,h2,h3,h4,h5⟩
  ·refine⟨j+1,by simpa using i1,?_,?_,fun hl=>by omega⟩
   ·have hk:X6 now k=false:=by simp[X6];omega
    rw[List.filter_cons_of_neg (by simp[hk]),i2];simp
   ·have e:n+ ((j+1:Nat):Int)=n+1+j:=by omega
    rw[e,List.drop_succ_cons];exact QdN i3 h3
theorem LH {a b:Int} (h:a≤b): ∀{us:List Us} {pv:Option Us},Ym a pv us=true→Ym b pv us=true
 | [],_,_=>rfl
 | u:: us,pv,hu=>by
  simp only[Ym,usP,Bool.and_eq_true,Bool.not_eq_true',decide_eq_false_iff_not]at hu ⊢;obtain⟨⟨⟨⟨h1,h2⟩,h3⟩,h4⟩,h5⟩:=hu;exact⟨⟨⟨⟨h1,by omega⟩,h3⟩,h4⟩,LH h h5⟩
theorem Qdq {a:Int} {us:List Us} {pv pv':Option Us} (h:Ym a pv us=true) (hp: ∀p,pv'=some p→∀u∈us,p.n < u.n):Ym a pv' us=true:=by
 cases us with
 | nil=>rfl
 | cons u us=>
  simp only[Ym,usP,Bool.and_eq_true]at h ⊢;refine⟨⟨h.1.1,?_⟩,h.2⟩;cases pv' with
  | none=>rfl
  | some p=>have:=hp p rfl u (by simp);simp;omega
theorem OY {a:Int} (f:Us→Bool): ∀{us:List Us} {pv:Option Us},Ym a pv us=true→Ym a pv (us.filter f)=true
 | [],_,_=>rfl
 | u:: us,pv,h=>by
  have hm:=Ii h;have h2:Ym a (some u) us=true:=by simp only[Ym,Bool.and_eq_true]at h;exact h.2
  have h1:usP a pv u=true:=by simp only[Ym,Bool.and_eq_true]at h;exact h.1
  have ih:=OY f h2;cases c:f u
  ·rw[List.filter_cons_of_neg (by simp[c])];exact Qdq ih fun p hp x hx=>hm.2.2 p hp x (List.mem_cons_of_mem _ (List.mem_filter.1 hx).1)
  ·rw[List.filter_cons_of_pos c];simp only[Ym,Bool.and_eq_true];exact⟨h1,ih⟩
theorem Ih {a:Int} (x:Us) (h0:0≤x.n) (h1:x.n < a) (h2:0≤x.e): ∀{us:List Us} {pv:Option Us},Ym a pv us=true→VP x.n us=false→(∀p,pv=some p→p.n < x.n)→Ym a pv (Va x us)=true
 | [],pv,_,_,hp=>by
  simp only[Va,Ym,usP,Bool.and_eq_true,Bool.not_eq_true',decide_eq_false_iff_not,Bool.and_true];refine⟨⟨⟨by omega,by omega⟩,by omega⟩,?_⟩;cases pv with
  | none=>rfl
  | some p=>have:=hp p rfl;simp;omega
 | u:: us,pv,h,hn,hp=>by
  have hh:=h;simp only[Ym,Bool.and_eq_true]at hh;simp only[VP,List.any_cons,Bool.or_eq_false_iff,decide_eq_false_iff_not]at hn;unfold Va;split
  ·rename_i c;simp only[Ym,Bool.and_eq_true];refine⟨?_,?_,hh.2⟩
   ·simp only[usP,Bool.and_eq_true,Bool.not_eq_true',decide_eq_false_iff_not];refine⟨⟨⟨by omega,by omega⟩,by omega⟩,?_⟩;cases pv with
    | none=>rfl
    | some p=>have:=hp p rfl;simp;omega
   ·simp only[usP,Bool.and_eq_true,Bool.not_eq_true',decide_eq_false_iff_not]at hh ⊢;refine⟨hh.1.1,?_⟩;simp;omega
  ·rename_i c;simp only[Ym,Bool.and_eq_true];exact⟨hh.1,Ih x h0 h1 h2 hh.2 hn.2 fun p hp'=>by injection hp' with hp';subst hp';omega⟩
theorem Od {s:Srv} (h:s.ok):Xq s=true:=by
 simp[Xq,h.name,h.w,h.ep,h.nx,h.nw,h.ks,h.us,h.ul]
structure Wc (s:Srv):Prop where
 ok:s.ok
 w:s.window≤16
 en: ∀k∈s.keys,k.e≤s.now+s.window
theorem Wc.nl {s:Srv} (h:Wc s):s.name.length≤10:=by
 have:=h.ok.name;simp only[XR,Bool.and_eq_true,decide_eq_true_eq]at this;exact this.1.1.2
theorem Wc.km {s:Srv} (h:Wc s): ∀k∈s.keys,k.key.mass≤3000:=fun k hk=>by
 obtain⟨h1,h2,h3⟩:=(Y9 s).1 h.ok.ks;obtain⟨i1,i2,i3,i4⟩:=Oo h3 k hk;have hep:=h.ok.ep;obtain⟨n,hn⟩: ∃n:Nat,k.n=n:=⟨k.n.toNat,by omega⟩;have:=SJ (n:=n) (by omega);have:=h.nl;rw[i1,hn];simp[Qt,Tm.mass,massL,Wj];omega
theorem Wc.kl {s:Srv} (h:Wc s):s.keys.length≤8:=((Y9 s).1 h.ok.ks).1.2
theorem Wc.cl {s:Srv} (h:Wc s):s.cl:=⟨by have:=h.kl;omega,by have:=h.ok.ul;omega⟩
theorem Wc.kb {s:Srv} (h:Wc s): ∀k∈s.keys,k.key.mass < big:=fun k hk=>by have:=h.km k hk;unfold big;omega
theorem Ds {s:Srv} {ag:List UInt8} {now:Int} (h:Wc s) (he: (Zy s ag now).2.2.2=0):Wc (Zy s ag now).1:=by
 unfold Zy at *;split at he
 ·rename_i h1;exact absurd he h1
 ·rename_i h1;rw[if_neg h1];split at he
  ·simp at he
  ·rename_i h2;rw[if_neg h2];split at he
   ·simp at he
   ·rename_i h3;rw[if_neg h3];obtain⟨hok,hnow⟩:=Tr (Decidable.not_not.1 h1);refine⟨⟨hok.name,hok.w,hok.ep,⟨by have:=hok.nx;simp only;omega,by have:=hok.nx;simp only;omega⟩,⟨by have:=hok.nw;simp only;omega,hnow.2⟩,?_,?_,hok.ul⟩,h.w,fun k hk=> ?_⟩
    ·exact(Y9 _).2 ((Y9 s).1 hok.ks)
    ·exact LH (by simp only;omega) hok.us
    ·have:=h.en k hk;simp only;omega
theorem FB {s:Srv} {now:Int} (h:Wc s) (he: (Yb s now).2=0):Wc (Yb s now).1:=by
 unfold Yb at *;split at he
 ·rename_i h1;exact absurd he h1
 ·rename_i h1;rw[if_neg h1];split at he
  ·simp at he
  ·rename_i h2;rw[if_neg h2];obtain⟨hok,hnow⟩:=Tr (Decidable.not_not.1 h1);obtain⟨i,k,hkk,hi⟩:=hok.last;obtain⟨c1,c2,c3⟩:=(Y9 s).1 hok.ks;have hw:=hok.w;have hep:=hok.ep;have hnw:=hok.nw;have hrl: (MT s (now+s.window)).length=s.keys.length:=by simp[MT,hkk]
   have hE:=HB (now+s.window) (by omega) c3 (by omega) (fun k hk=>by have:=h.en k hk;omega);have e1:s.epoch - s.keys.length+1+s.keys.length=s.epoch+1:=by omega
   rw[e1]at hE;refine⟨⟨hok.name,hok.w,⟨by simp only;omega,by simp only;omega⟩,hok.nx,⟨by simp only;omega,hnow.2⟩,?_,hok.us,hok.ul⟩,h.w,fun x hx=> ?_⟩
   ·refine(Y9 _).2 ⟨⟨by simp,by simp[hrl];omega⟩,?_,?_⟩
    ·simp[hrl];omega
    ·have e2:s.epoch+1 - ((MT s (now+s.window)++ [(⟨s.epoch+1,0,Qt s.name (s.epoch+1)⟩:Ep)]).length:Int)+1=s.epoch - s.keys.length+1:=by simp[hrl];omega
     simp only[e2];exact hE
   ·simp only[MT,hkk,List.mem_append]at hx;simp only[List.dropLast_concat,List.getLast?_concat,Option.toList_some,List.map_cons,List.map_nil,List.mem_singleton]at hx;rcases hx with(hx | hx) | hx
    ·have:=h.en x (by rw[hkk];simp[hx]);simp only;omega
    ·rw[hx];simp
    ·rw[hx];simp only;omega
theorem GZ {s:Srv} {now:Int} (h:Wc s):Wc (XF s now):=by
 unfold XF;split
 ·exact h
 ·rename_i h1;obtain⟨hok,hnow⟩:=Tr (Decidable.not_not.1 h1);obtain⟨c1,c2,c3⟩:=(Y9 s).1 hok.ks;obtain⟨j,j1,j2,j3,_⟩:=KW now c3;refine⟨⟨hok.name,hok.w,hok.ep,hok.nx,⟨by have:=hok.nw;simp only;omega,hnow.2⟩,?_,OY _ hok.us,?_⟩,h.w,fun k hk=> ?_⟩
  ·refine(Y9 _).2 ?_;simp only[j2];have e:s.epoch - ((s.keys.drop j).length:Int)+1=s.epoch - s.keys.length+1+j:=by simp only[List.length_drop];omega
   rw[e];exact⟨⟨by simp only[List.length_drop];omega,by simp only[List.length_drop];omega⟩,by omega,j3⟩
  ·have:=List.length_filter_le (Vk now) s.used;have:=hok.ul;simp only;omega
  ·have:=h.en k (List.mem_filter.1 hk).1;simp only;omega
theorem Fz {s:Srv} {t:Tm} {now:Int} (h:Wc s) (he: (Ya s t now).2.2=0):Wc (Ya s t now).1:=by
 unfold Ya at *;split at he
 ·rename_i h1;exact absurd he h1
 ·rename_i h1;rw[if_neg h1];obtain⟨hok,hnow⟩:=Tr (Decidable.not_not.1 h1);cases hr: (Yo s t).1 with
  | none=>rw[hr]at he;exact absurd he (SN.1 hr)
  | some q=>
   obtain⟨a,ky,n,ex⟩:=q;rw[hr]at he;simp only at he ⊢;obtain⟨_,k0,hpq⟩:=Fw hr;obtain⟨hnb,hxb,_,_⟩:=L3 hpq;split at he
   ·simp at he
   ·rename_i h2;rw[if_neg h2];split at he
    ·simp at he
    ·rename_i h3;rw[if_neg h3];unfold R7 at *;split at he
     ·simp at he
     ·rename_i h4;rw[if_neg h4];split at he
      ·simp at he
      ·rename_i h5;rw[if_neg h5];refine⟨⟨hok.name,hok.w,hok.ep,hok.nx,⟨by have:=hok.nw;simp only;omega,hnow.2⟩,?_,?_,?_⟩,h.w,fun k hk=> ?_⟩
       ·exact(Y9 _).2 ((Y9 s).1 hok.ks)
       ·exact Ih ⟨n,ex⟩ hnb.1 (by simp only;omega) hxb.1 hok.us (by simpa using h4) (fun p hp=>by cases hp)
       ·have:=hok.ul;simp only[Ng];omega
       ·have:=h.en k hk;simp only;omega
structure OpU where
 k:Nat
 n:Nat
 a:Nat
def UQ (o:OpU):List AV:=[.int .u8 (o.k:Int),.int .u8 (o.n:Int),.int .u8 (o.a:Int)]
def OpU.ok (o:OpU):Prop:=o.k < 256∧o.n < 256∧o.a < 256
structure Pla where
 s:Srv
 now:Int
 ts:List Tm
 ks:List Tm
def WZ (p:Pla):List AV:=[.str p.s.name,.int .i64 p.s.epoch,.sl false 6 (p.s.keys.map Q8),.int .i64 p.s.next,.sl false 2 (p.s.used.map XM),.int .i64 p.s.window,.int .i64 p.s.now,.int .i64 p.now,.sl false 4 (encTs p.ts),.sl false 4 (encTs p.ks)]
def agO (o:OpU):List UInt8:=[(97+o.n % 3).toUInt8]
def Q5 (p:Pla) (o:OpU):Int:=p.now+ ((o.a % 8:Nat):Int)
def tkO (p:Pla) (o:OpU):Tm:=(p.ts[o.n % p.ts.length]?).getD Qs
def Te (p:Pla) (o:OpU):Pla:=
 if o.k % 4=0 then
  if(Zy p.s (agO o) (Q5 p o)).2.2.2=0 then⟨(Zy p.s (agO o) (Q5 p o)).1,Q5 p o,p.ts ++ [(Zy p.s (agO o) (Q5 p o)).2.1],p.ks ++ [(Zy p.s (agO o) (Q5 p o)).2.2.1]⟩
  else {p with now:=Q5 p o}
 else if o.k % 4=1 then
  if p.ts≠[]∧(Ya p.s (tkO p o) (Q5 p o)).2.2=0 then {p with now:=Q5 p o,s:=(Ya p.s (tkO p o) (Q5 p o)).1}else {p with now:=Q5 p o}
 else if o.k % 4=2 then
  if(Yb p.s (Q5 p o)).2=0 then {p with now:=Q5 p o,s:=(Yb p.s (Q5 p o)).1}else {p with now:=Q5 p o}
 else {p with now:=Q5 p o,s:=XF p.s (Q5 p o)}
structure VE (m:Nat) (p:Pla):Prop where
 s:Wc p.s
 lo:p.s.now≤p.now
 hi:p.now≤7*m
 nx:p.s.next≤m
 tl:p.ts.length≤m
 kl:p.ks.length≤m
 tm: ∀t∈p.ts,t.mass < 100000
theorem Ho (o:OpU): (agO o).length=1:=rfl
theorem Qdl {p:Pla} {o:OpU} (h:p.ts≠[]):tkO p o∈p.ts:=by
 have hl:0 < p.ts.length:=List.length_pos_iff.2 h;have hx:o.n % p.ts.length < p.ts.length:=Nat.mod_lt _ hl;unfold tkO;rw[List.getElem?_eq_getElem hx];exact List.getElem_mem hx
theorem G8 {s:Srv} {ag:List UInt8} {now:Int} (h:Wc s) (hag:ag.length≤100): (Zy s ag now).2.1.mass < 100000:=by
 have hz:Qs.mass < 100000:=by decide
 unfold Zy;split
 ·exact hz
 ·split
  ·exact hz
  ·split
   ·exact hz
   ·rename_i h1 _ _;have h1:=Decidable.not_not.1 h1;obtain⟨hok,hnow⟩:=Tr h1;obtain⟨n,hn1⟩: ∃n:Nat,s.next=n:=⟨s.next.toNat,by have:=hok.nx;omega⟩;obtain⟨ex,he1⟩: ∃e:Nat,now+s.window=e:=⟨(now+s.window).toNat,by have:=hok.nw;have:=hok.w;omega⟩;have hnb:=hok.nx;have hexb:ex < 1000000:=by have:=hok.nw;have:=hok.w;omega
    obtain⟨i,k,hkk,hi⟩:=hok.last;have hlk:Tt s=k.key:=by simp[Tt,hkk]
    have hkm:=h.km k (by rw[hkk];simp);have hd:=SJ (n:=n) (by omega);have hd2:=SJ (n:=ex) (by omega);have hnl:=h.nl;simp only[hn1,he1,hlk];simp[YC,Ui,W3,QG,Y1,QK,ENC,Tm.mass,massL,Wj];omega
theorem Ly {m:Nat} {p:Pla} {o:OpU} (h:VE m p):VE (m+1) (Te p o):=by
 have hb:o.a % 8 < 8:=Nat.mod_lt _ (by decide);have ht:Q5 p o≤7* (m+1:Nat)∧p.now≤Q5 p o:=by have:=h.hi;unfold Q5;omega
 have h0:VE (m+1) {p with now:=Q5 p o}:=⟨h.s,by have:=h.lo;simp only;omega,ht.1,by have:=h.nx;simp only;omega,by have:=h.tl;simp only;omega,by have:=h.kl;simp only;omega,h.tm⟩;unfold Te;split
 ·split
  ·rename_i h1 h2;have hi:=Ds h.s h2;have hm:=G8 (ag:=agO o) (now:=Q5 p o) h.s (by simp[Ho]);refine⟨hi,?_,ht.1,?_,by have:=h.tl;simp;omega,by have:=h.kl;simp;omega,fun t htt=> ?_⟩
   ·unfold Zy at h2 ⊢;simp only;split at h2
    ·contradiction
    ·rw[if_neg (by assumption)];split at h2
     ·simp at h2
     ·rw[if_neg (by assumption)];split at h2
      ·simp at h2
      ·rw[if_neg (by assumption)];exact Int.le_refl _
   ·unfold Zy at h2 ⊢;simp only;split at h2
    ·contradiction
    ·rw[if_neg (by assumption)];split at h2
     ·simp at h2
     ·rw[if_neg (by assumption)];split at h2
      ·simp at h2
      ·rw[if_neg (by assumption)];have:=h.nx;simp only;omega
   ·rcases List.mem_append.1 htt with q | q
    ·exact h.tm t q
    ·simp only[List.mem_singleton]at q;rw[q];exact hm
  ·exact h0
 ·split
  ·split
   ·rename_i h1 h2 h3;have hi:=Fz h.s h3.2;have hs: (Ya p.s (tkO p o) (Q5 p o)).1.now=Q5 p o∧(Ya p.s (tkO p o) (Q5 p o)).1.next=p.s.next:=by
     have h3:=h3.2;unfold Ya at h3 ⊢;split at h3
     ·contradiction
     ·rw[if_neg (by assumption)];cases hr: (Yo p.s (tkO p o)).1 with
      | none=>rw[hr]at h3;exact absurd h3 (SN.1 hr)
      | some q=>
       obtain⟨a,ky,n,ex⟩:=q;rw[hr]at h3;simp only at h3 ⊢;split at h3
       ·simp at h3
       ·rw[if_neg (by assumption)];split at h3
        ·simp at h3
        ·rw[if_neg (by assumption)];unfold R7 at h3 ⊢;split at h3
         ·simp at h3
         ·rw[if_neg (by assumption)];split at h3
          ·simp at h3
          ·rw[if_neg (by assumption)];exact⟨rfl,rfl⟩
    exact⟨hi,by rw[hs.1];exact Int.le_refl _,ht.1,by have:=h.nx;simp only[hs.2];omega,by have:=h.tl;simp only;omega,by have:=h.kl;simp only;omega,h.tm⟩
   ·exact h0
  ·split
   ·split
    ·rename_i h1 h2 h3 h4;have hi:=FB h.s h4;have hs: (Yb p.s (Q5 p o)).1.now=Q5 p o∧(Yb p.s (Q5 p o)).1.next=p.s.next:=by
      unfold Yb at h4 ⊢;split at h4
      ·contradiction
      ·rw[if_neg (by assumption)];split at h4
       ·simp at h4
       ·rw[if_neg (by assumption)];exact⟨rfl,rfl⟩
     exact⟨hi,by rw[hs.1];exact Int.le_refl _,ht.1,by have:=h.nx;simp only[hs.2];omega,by have:=h.tl;simp only;omega,by have:=h.kl;simp only;omega,h.tm⟩
    ·exact h0
   ·have hi:=GZ (now:=Q5 p o) h.s;have hs: (XF p.s (Q5 p o)).now≤Q5 p o∧(XF p.s (Q5 p o)).next=p.s.next:=by
     unfold XF;split
     ·exact⟨by have:=h.lo;omega,rfl⟩
     ·exact⟨Int.le_refl _,rfl⟩
    exact⟨hi,hs.1,ht.1,by have:=h.nx;simp only[hs.2];omega,by have:=h.tl;simp only;omega,by have:=h.kl;simp only;omega,h.tm⟩
def Ke (p:Pla) (l:List OpU):Pla:=l.foldl Te p
theorem Lo: ∀(l:List OpU) {m:Nat} {p:Pla},VE m p→VE (m+l.length) (Ke p l)
 | [],_,_,h=>h
 | o:: l,m,p,h=>by
  have:=Lo l (Ly (o:=o) h);have e:m+1+l.length=m+ (o:: l).length:=by simp;omega
  rw[e]at this;exact this
def QL:List UInt8:=[115,114,118]
theorem P9:XR QL=true:=by decide+kernel
def Z8 (w:Nat):Pla:=⟨⟨QL,0,[⟨0,0,Qt QL 0⟩],0,[],1+ ((w % 16:Nat):Int),0⟩,0,[],[]⟩
theorem Mn (w:Nat):VE 0 (Z8 w):=by
 have hb:w % 16 < 16:=Nat.mod_lt _ (by decide);refine⟨⟨⟨P9,⟨by simp only[Z8];omega,by simp only[Z8];omega⟩,by simp[Z8],by simp[Z8],by simp[Z8],?_,rfl,by simp[Z8]⟩,by simp only[Z8];omega,fun k hk=> ?_⟩,by simp[Z8],by simp[Z8],by simp[Z8],by simp[Z8],by simp[Z8],fun t ht=>by simp[Z8]at ht⟩
 ·exact(Y9 _).2 ⟨by simp[Z8],by simp[Z8],by simp[Z8,chP]⟩
 ·simp[Z8]at hk;simp only[hk,Z8];omega
def WR (w:Nat) (l:List OpU):Pla:=Ke (Z8 w) l
theorem Fu (w:Nat) (l:List OpU):VE l.length (WR w l):=by
 have:=Lo l (Mn w);rwa[Nat.zero_add]at this
end Go.Am
