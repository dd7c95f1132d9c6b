/-
  AmCc.
-/
import Derived.Test.YtmlbijpbecpjoaaGreatDoorG09
set_option linter.all false
namespace Go.Am
def ccO (T:Nat):Qh->Qa->Option (AV×Qa)
 | [.gt T' id],bs=>if T'=T then(match bs[id]? with
   | some (.nlp:: r)=>some (.tup [],bs.set id (.gp id 0:: r))
   | some (.gp i 0:: _)=>if i=id then some (.tup [],bs)else none
   | _=>none)else none
 | _,_=>none
def QmJ [Dr] {P:Program} {num:Y0} {Γ:YU} {g T:Nat}
  (hU: ∀(b:Nat) (w:World),w.cell? ⟨b,0,none⟩=some (.pointer (some ⟨b,0,none⟩))->Calls P g #[.pointer (some ⟨b,0,none⟩)] w fun e w'=>e= .returned (.tuple #[])/\w'=w)
  (hF: ∀(b:Nat) (w:World),w.cell? ⟨b,0,none⟩=some (.pointer none)->w.shape? b=some (T,2)->w.frozen? ⟨b,0,none⟩=false->
   Calls P g #[.pointer (some ⟨b,0,none⟩)] w fun e w'=>e= .returned (.tuple #[])/\w'=w.setCell ⟨b,0,none⟩ (.pointer (some ⟨b,0,none⟩))):VF P num Γ (ccO T) g:=by
 intro args bs r bs' hc hok w m β ν vs hG hGb hvs hrep hbox hlt;unfold ccO at hc;split at hc
 ·rename_i T' id;split at hc
  ·rename_i hT;subst hT;obtain⟨u0,hu0,hr0⟩:=hrep 0 _ rfl;simp only[Qd]at hr0;obtain⟨kb,hkb,hty,hz,rfl⟩:=hr0;have hν: ∀b p,ν b=some p->b < w.heap.size/\(w.heap.size<=b\/∃q,ν b=some q)/\(p.isG=true\/p= .f):=fun b p h=>⟨(hlt b p h).1,.inr ⟨p,h⟩,.inl (hlt b p h).2.2⟩;have hvs1:vs= #[.pointer (some ⟨kb.b,0,none⟩)]:=by
    apply Array.ext'
    match h:vs.toList,hvs,hu0 with
    | [x],_,hu0=>
     have:vs[0]? =some x:=by rw[<- OB,h];rfl
     rw[this]at hu0;injection hu0 with hu0
     rw[hu0]
    | [],hvs,_=>simp[<- Tv,h]at hvs
    | _:: _:: _,hvs,_=>simp[<- Tv,h]at hvs
   subst hvs1;split at hc
   ·rename_i rest hbs;injection hc with hc
    injection hc with e1 e2
    subst e1 e2;obtain⟨cur,e,b1,b2,b3,b4,b5⟩:=(hbox.2 id _ kb hbs hkb.1 (by simp)).1 hkb.2;obtain⟨c9,h9⟩:=(hbox.2 id _ kb hbs hkb.1 (by simp)).2.2 hkb.2;have h8:=b1.symm.trans h9;simp only[QD,Obj.cells.injEq]at h8;have he:e=T':=by rw[h8.2.1,hty]
    have hcs:cur.size=2:=by omega
    obtain⟨u1,q1,q2,q3,q4⟩:=b5 0 _ rfl;simp only[Qd]at q3;subst q3;have c0:w.cell? ⟨kb.b,0,none⟩=some (.pointer none):=by rw[cell_of_row w kb.b 0 cur e (0,0) b1];exact q1
    have hsh:w.shape? kb.b=some (T',2):=by simp[World.shape?,b1,he,hcs]
    have hfz:w.frozen? ⟨kb.b,0,none⟩=false:=by simp[World.frozen?,b1]
    refine(hF kb.b w c0 hsh hfz).mono ?_
    rintro e' w' ⟨rfl,rfl⟩
    rw[setCell_eq_setRow w kb.b 0 cur e (0,0) _ b1];obtain⟨cur',hcur⟩: ∃cur',cur'=cur.setIfInBounds 0 (.pointer (some ⟨kb.b,0,none⟩)):=⟨_,rfl⟩;rw[<- hcur];have hsz':cur'.size=cur.size:=by rw[hcur];simp
    have hS:=ZO.setRow (cur':=cur') (k:=0) b1 (m:=m) (fun i u hi _=>by omega) (by omega);rw[UC b3]at hS;have hidl:id < bs.length:=by
     rcases QR id bs.length with h | h
     ·exact h
     ·rw[Q3 h]at hbs;cases hbs
    have hoth: ∀x p,ν x=some p->p≠ .g id->(w.setRow kb.b cur').heap[x]? =w.heap[x]? :=fun x p hx hp=>
     setRow_other w kb.b x cur' (fun e=>by subst e;rw[b4]at hx;injection hx with hx;exact hp hx.symm)
    refine⟨.tuple #[],m,β,ν,rfl,Ge.refl β,⟨hS.os,hS.tape,hS.output,hS.size,fun b hb hx=>hS.same b hb (fun e=>hx (by subst e;exact⟨_,b4⟩)),hS.le,hS.drawn⟩,⟨by simpa using hbox.1,fun i cs k h1 h2 hne=> ?_⟩,rfl,?_,trivial,fun b p h=> ?_⟩
    ·by_cases hi:i=id
     ·subst hi;rw[Sj hidl]at h1;injection h1 with h1
      subst h1;rw[hkb.1]at h2;injection h2 with h2
      subst h2;refine⟨fun _=>⟨cur',e,setRow_heap w kb.b cur cur' e (0,0) b1,⟨by rw[hsz'];exact b2.1,by simpa using b2.2⟩,b3,b4,fun j c hj=> ?_⟩,fun q=>(by rw[hkb.2]at q;cases q),fun _=>⟨cur',by rw[hty,<- he];exact setRow_heap w kb.b cur cur' e (0,0) b1⟩⟩;cases j with
      | zero=>
       simp only[Zt,QD]at hj;subst hj;exact⟨.pointer (some ⟨kb.b,0,none⟩),by rw[hcur];simp[hcs],rfl,by simp only[Qd];exact⟨kb,hkb,rfl⟩,trivial⟩
      | succ j=>
       obtain⟨u,r1,r2,r3,r4⟩:=b5 (j+1) c (by simpa using hj);refine⟨u,by rw[hcur];simpa using r1,r2,Zc (Ge.refl β) hS.le c u r3,?_⟩;exact Wn (θ:=fun p=>p) (fun x hx=>⟨hoth x _ hx (by simp),rfl,hx⟩) r4
     ·rw[Vs (fun e=>hi e.symm)]at h1;exact Wm (Ge.refl β) hS.le (fun x hx=>⟨hoth x _ hx (by simpa using hi),rfl,hx⟩) (fun j x hx=>⟨hoth x _ hx (by simp),rfl,hx⟩) (hbox.2 i cs k h1 h2 hne)
    ·simp only[Qd];exact⟨#[],rfl,rfl,by simp only[X5]⟩
    ·have:=hν b p h;exact⟨by simpa using this.1,this.2⟩
   ·rename_i i rest hbs;split at hc
    ·rename_i hi;subst hi;injection hc with hc
     injection hc with e1 e2
     subst e1 e2;obtain⟨cur,e,b1,b2,b3,b4,b5⟩:=(hbox.2 _ _ kb hbs hkb.1 (by simp)).1 hkb.2;obtain⟨u1,q1,q2,q3,q4⟩:=b5 0 _ rfl;simp only[Qd]at q3;obtain⟨k2,hk2,rfl⟩:=q3;rw[hkb.1]at hk2;obtain⟨hk2,_⟩:=hk2;injection hk2 with hk2
     subst hk2;have c0:w.cell? ⟨kb.b,0,none⟩=some (.pointer (some ⟨kb.b,0,none⟩)):=by rw[cell_of_row w kb.b 0 cur e (0,0) b1];exact q1
     refine(hU kb.b w c0).mono ?_
     rintro e' w' ⟨rfl,rfl⟩
     exact⟨.tuple #[],m,β,ν,rfl,Ge.refl β,ZO.refl _ _ _,hbox,rfl,by simp only[Qd];exact⟨#[],rfl,rfl,by simp only[X5]⟩,trivial,hν⟩
    ·cases hc
   ·cases hc
  ·cases hc
 ·cases hc
end Go.Am
