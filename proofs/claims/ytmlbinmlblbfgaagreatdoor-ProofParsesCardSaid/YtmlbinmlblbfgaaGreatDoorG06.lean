/-
  AmA, Am11.
-/
import Derived.Test.YtmlbinmlblbfgaaGreatDoorG05
set_option linter.all false
namespace Go.Am
section
variable {P:Program} {num:Nat->Option Nat} {β:List Blk} {w w':World} {m:Nat->Nat} {ν:Own} {N:Nat} {w0:World} {m0:Nat->Nat} {T:Nat->Prop} {β0:List Blk} {σ σ1:St} {a:Act}
 {o:Oper} {next:Act->World->Prop} {Q:Exit->Act->World->Prop} {K:ZJ} {v:AV}
structure Qjx (num:Nat->Option Nat) (β:List Blk) (w:World) (m:Nat->Nat) (b2 of2 len:Nat) (ys:List AV) (news:List Value):Prop where
 nl:news.length=len
 at_: ∀j u,news[j]? =some u->w.cell? ⟨b2,of2+j,none⟩=some u
 one: ∀u∈news,u.oneCell'=true
 yl:ys.length=len
 rep: ∀(j:Nat) (c:AV),ys[j]? =some c->∃u,news[j]? =some u/\u.oneCell'=true/\Qa num β w m c u/\∀p w' m' ν',Q6 w' m' ν' p c u
def Hg [Dr] (hI:Inv num N w0 m0 T β0 σ a w m β ν) {sz n:Nat} {x:AV} {ys:Qf} {Y:Value} (hsz:0 < sz) (hs:WF sz x σ.bs=some (n,ys)) (hr:Qa num β w m x Y):
  ∃A cap2,Y= .slice A n cap2/\(0 < n->∃b2 of2 news,A=some ⟨b2,of2,none⟩/\Qjx num β w m b2 of2 (n*sz) ys news):=by
 unfold WF at hs;split at hs
 ·rename_i ow sz2 xs;split at hs
  ·rename_i he;subst he;simp only[Qs,QB]at hs;obtain⟨rfl,rfl⟩:=hs;simp only[Qa]at hr;obtain⟨A,len,cap,rfl,h2,h3,h4,h5⟩:=hr;subst h2;refine⟨A,cap,rfl,fun hn=> ?_⟩;rcases h5 with h5 | ⟨b2,of2,rfl,h5⟩
   ·rw[h5]at hn;simp at hn
   have hcells:=V9 h5 hsz;obtain⟨news,hnews⟩: ∃news:Q8,news=(List.range (xs.length*sz2)).map fun j=>(w.cell? ⟨b2,of2+j,none⟩).getD undef:=⟨_,rfl⟩;have hnl:news.length=xs.length*sz2:=by simp[hnews]
   have hget: ∀j,j < xs.length*sz2->∃u,news[j]? =some u/\w.cell? ⟨b2,of2+j,none⟩=some u/\hg w m b2 (of2+j)=some u/\u.oneCell'=true:=fun j hj=>by
    obtain⟨u,g1,g2⟩:=hcells j hj;have:=(Y1 g1).2.1;exact⟨u,by simp[hnews,hj,this],this,g1,g2⟩
   have hlt: ∀{j:Nat} {u:Value},news[j]? =some u->j < xs.length*sz2:=fun {j u} hj=>by
    rcases QL j news.length with h | h
    ·omega
    ·rw[QT h]at hj;cases hj
   have hfl:=X7 h5;refine⟨b2,of2,news,rfl,hnl,fun j u hj=> ?_,fun u hu=> ?_,hfl,fun j c hc=> ?_⟩
   ·obtain⟨u2,p1,p2,_⟩:=hget j (hlt hj);rw[hj]at p1;injection p1 with p1
    subst p1;exact p2
   ·obtain⟨j,hj⟩:=Ta hu;obtain⟨u2,p1,_,_,p2⟩:=hget j (hlt hj);rw[hj]at p1;injection p1 with p1
    subst p1;exact p2
   ·obtain⟨u,q1,q2,q3⟩:=U7 h5 j c hc;have hj:j < xs.length*sz2:=by
     rw[<- hfl];rcases QL j (xs.flatten.map AV.strip).length with h | h
     ·exact h
     ·rw[QT h]at hc;cases hc
    obtain⟨u2,p1,_,p3,_⟩:=hget j hj;rw[q1]at p3;injection p3 with p3
    subst p3;exact⟨u,p1,q2,q3⟩
  ·cases hs
 ·rename_i id of sz2 k;simp only[Qa]at hr;obtain⟨A,cap,rfl,h3,h4,h5⟩:=hr;split at hs
  ·rename_i hk;split at hs
   ·simp only[Qs,QB]at hs;obtain⟨rfl,rfl⟩:=hs;subst hk;exact⟨A,cap,rfl,fun h=>by omega⟩
   ·cases hs
  ·rename_i hk;split at hs
   ·rename_i he;subst he;cases hbs:σ.bs[id]? with
    | none=>rw[hbs]at hs;cases hs
    | some cs=>
     rw[hbs]at hs;simp only[Qt]at hs;split at hs
     ·rename_i hl;simp only[Qs,QB]at hs;obtain⟨rfl,rfl⟩:=hs;refine⟨A,cap,rfl,fun hn=> ?_⟩;rcases h5 with h5 | ⟨kb,h5,rfl,h6,_⟩
      ·exact absurd h5.1 hk
      have hkm:0 < k*sz2:=Uc hn hsz;have hne:cs≠[]:=fun e=>by rw[e]at hl;simp only[QX]at hl;omega
      obtain⟨cur,e,p1,p2,p3,p4,p5⟩:=(hI.boxes id cs kb hbs h5.1 hne).1 h5.2;have hcs:of+k*sz2<=cur.size:=by omega
      obtain⟨news,hnews⟩: ∃news:Q8,news=(cur.toList.drop of).take (k*sz2):=⟨_,rfl⟩;have hnl:news.length=k*sz2:=by simp[hnews];omega
      have hget: ∀{j:Nat} {u:Value},news[j]? =some u->j < k*sz2/\cur[of+j]? =some u:=fun {j u} hj=>by
       rw[hnews,Ws]at hj;split at hj
       ·rename_i h;rw[YM]at hj;exact⟨h,by simpa using hj⟩
       ·cases hj
      have hput: ∀{j:Nat} {u:Value},j < k*sz2->cur[of+j]? =some u->news[j]? =some u:=fun {j u} hj hu=>by
       rw[hnews,XC hj,YM];simpa using hu
      have hrow: ∀{j:Nat},j < k*sz2->∃c u,cs[of+j]? =some c/\cur[of+j]? =some u/\u.oneCell'=true/\Qa num β w m c u:=fun {j} hj=>by
       have:of+j < cs.length:=by omega
       obtain⟨u,r1,r2,r3,_⟩:=p5 _ _ (Zr this);exact⟨_,u,Zr this,r1,r2,r3⟩
      refine⟨kb.b,of,news,rfl,hnl,fun j u hj=> ?_,fun u hu=> ?_,by simp;omega,fun j c hc=> ?_⟩
      ·rw[cell_of_row w kb.b _ cur e (0,0) p1];exact(hget hj).2
      ·obtain⟨j,hj⟩:=Ta hu;obtain⟨h1,h2⟩:=hget hj;obtain⟨_,u2,_,r2,r3,_⟩:=hrow h1;rw[h2]at r2;injection r2 with r2
       subst r2;exact r3
      ·obtain⟨d,hd,rfl⟩:=Q0 hc;rw[Ws]at hd;split at hd
       ·rename_i hj;rw[YM]at hd;obtain⟨d2,u,r1,r2,r3,r4⟩:=hrow hj;rw[hd]at r1;injection r1 with r1
        subst r1;exact⟨u,hput hj r2,r3,by rw[QE];exact r4,fun p w' m' ν'=>ZK _ _ _⟩
       ·cases hd
     ·cases hs
   ·cases hs
 ·cases hs
def QbG {n:Int} (h1: -9223372036854775808<=n) (h2:n < 9223372036854775808):IntKind.i64.wrap n=n:=by
 simp only[IntKind.wrap_i64];omega
def Ab (zs:QW) (n:Nat): (Builtin.zeroCells zs n).toList.length=n*zs.size:=by simp[Builtin.zeroCells]
def LB {t ti ty e:TypeId} {i:TypeInfo} {base:WU} {k cap:Nat} (ht:P.underlying t=some (.slice e)) (hu:P.underlying ti=some (.int .i64)) (hi:P.info? e=some i) (hk:k<=cap):
  (Builtin.append_ #[t,ti] ty #[.slice base k cap,.int .i64 0]).run P w= .ok (.slice base k cap) w:=by
 have h0:IntKind.i64.wrap 0=0:=rfl;cases base <;> simp[Builtin.append_,run_underlying ht,run_underlying hu,sizeOf,typeInfo,hi,asInt,asIntOf,h0,hk,storeCells]
def Td:=@List.mem_map
def HN {t ti ty e e2:TypeId} {i:TypeInfo} {z:Value} {g sLen sCap k:Nat} {cur:QW} (ht:P.underlying t=some (.slice e)) (hu:P.underlying ti=some (.int .i64)) (hi:P.info? e=some i) (hz:i.zero=some z)
  (hzs:z.cells.size=i.size) (hg:w.heap[g]? =some (.cells cur e2 (0,0))) (h1: ∀u∈z.cells,u.oneCell'=true) (hp:0 < k*i.size) (h63: (k:Int)<=9223372036854775807) (hb:k*i.bytes<=281474976710656)
  (hroom:sLen+k<=sCap) (hfit:sLen*i.size+k*i.size<=cur.size):
  (Builtin.append_ #[t,ti] ty #[.slice (some ⟨g,0,none⟩) sLen sCap,.int .i64 k]).run P w=
   .ok (.slice (some ⟨g,0,none⟩) (sLen+k) sCap) (w.setRow g (cur.toList.take (sLen*i.size)++ (Builtin.zeroCells z.cells k).toList ++ cur.toList.drop (sLen*i.size+ (Builtin.zeroCells z.cells k).toList.length)).toArray):=by
 have hl:=Ab z.cells k;rw[hzs]at hl;have ho: ∀u∈(Builtin.zeroCells z.cells k).toList,u.oneCell'=true:=fun u hu=>by
  simp only[Builtin.zeroCells,Array.toList_map,Td]at hu;obtain⟨j,_,rfl⟩:=hu;have hpos:0 < z.cells.size:=by
   rcases Nc z.cells.size with h | h
   ·rw[hzs]at h;rw[h]at hp;simp at hp
   ·exact h
  have hm:=T2 j hpos;rw[Xw z.cells (j % z.cells.size) hm];exact h1 _ (Array.getElem_mem hm)
 have hst:=run_storeCells_at P g (sLen*i.size) e2 (Builtin.zeroCells z.cells k).toList 0 cur w hg (by rw[hl];simpa using hfit) ho;simp only[WH]at hst;have hw:IntKind.i64.wrap (k:Int)=(k:Int):=QbG (by omega) (by omega);have hk0: ¬(k*i.size=0):=by omega
 have hneg: ¬((k:Int) < 0):=by omega
 have hbb: ¬((281474976710656:Int) < (k:Int)* (i.bytes:Int)):=by
  have: ((k*i.bytes:Nat):Int)<=281474976710656:=by omega
  rw[Pd]at this;omega
 simp[Builtin.append_,run_underlying ht,run_underlying hu,sizeOf,typeInfo,zeroValue,hi,hz,asInt,asIntOf,hw,hneg,hbb,hroom,hk0,ZI,hst]
def RO {t ti ty e:TypeId} {i:TypeInfo} {z:Value} (ht:P.underlying t=some (.slice e)) (hu:P.underlying ti=some (.int .i64)) (hi:P.info? e=some i) (hz:i.zero=some z)
  {base:WU} {sLen sCap k:Nat} {olds:Q8} (hlo:olds.length=sLen*i.size) (holds: (Builtin.firstCells i.size sLen (.slice base sLen sCap)).run P w.drew= .ok olds.toArray w.drew) (hp:0 < k*i.size)
  (hg:sCap < sLen+k) (h63: ((sLen+k:Nat):Int)<=9223372036854775807) (hb:k*i.bytes<=281474976710656) (hfit:Builtin.nextslicecap (sLen+k) sCap*i.bytes<=281474976710656):
  (Builtin.append_ #[t,ti] ty #[.slice base sLen sCap,.int .i64 k]).run P w=
   .ok (.slice (some ⟨w.heap.size,0,none⟩) (sLen+k) (grownCap w (sLen+k) sCap e))
    (w.drew.alloc (.cells (olds.toArray ++ (Builtin.zeroCells z.cells k).toList.toArray ++ Builtin.zeroCells z.cells (grownCap w (sLen+k) sCap e - (sLen+k))) e)):=by
 have hn: ¬(sLen+k<=sCap):=by omega
 have h63': ¬(9223372036854775807 < ((sLen:Int)+ (k:Int))):=by omega
 have h48': ¬(281474976710656 < Builtin.nextslicecap (sLen+k) sCap*i.bytes):=by omega
 have hw:IntKind.i64.wrap (k:Int)=(k:Int):=QbG (by omega) (by omega);have hk0: ¬(k*i.size=0):=by omega
 have hneg: ¬((k:Int) < 0):=by omega
 have hbb: ¬((281474976710656:Int) < (k:Int)* (i.bytes:Int)):=by
  have: ((k*i.bytes:Nat):Int)<=281474976710656:=by omega
  rw[Pd]at this;omega
 simp[Builtin.append_,run_underlying ht,run_underlying hu,sizeOf,typeInfo,zeroValue,hi,hz,asInt,asIntOf,hw,hneg,hbb,hn,h63',h48',hk0,Question.forced,holds,newRow,grownCap]
def TyA (β:Ym) (e:TypeId):AV->Prop
 | .gs id _ sz k=>(sz=0/\k=0)\/∃kb:Blk,β[id]? =some kb/\kb.ty=e
 | _=>True
def VK:=@List.eq_nil_of_length_eq_zero
def Pc:=@List.length_set
set_option maxHeartbeats 1000000 in
def Rf [Dr] {bytes n id o1 sz1 k:Nat} {s':Operand} {e:TypeId} {i:TypeInfo} {z:Value} {ys:Qf} {news:Q8} {ap:Value->Sem Value} {v2:AV} {bs2:Qd}
  (hI:Inv num N w0 m0 T β0 σ a w m β ν) (hr:Qa num β w m (.gs id o1 sz1 k) (a.eval s')) (hby:0 < i.bytes) (hbe:i.bytes=bytes) (hsz:0 < i.size) (hz:z.cells.size=i.size) (hm:VR bytes i.size (.gs id o1 sz1 k) (n,ys) σ.bs=some (v2,bs2))
  (hnl:news.length=n*i.size) (hone: ∀u∈news,u.oneCell'=true)
  (hN:0 < n->ys.length=n*i.size/\∀(j:Nat) (c:AV),ys[j]? =some c->∃u,news[j]? =some u/\u.oneCell'=true/\Qa num β w m c u/\∀p w' m' ν',Q6 w' m' ν' p c u)
  (hexec: ∀A k cap,a.eval s'= .slice A k cap->∀r w',(ap (.slice A k cap)).run P w= .ok r w'->(execOp a.eval o).run P w= .ok (.value r) w')
  (q0:n=0->∀A k cap,k<=cap->(ap (.slice A k cap)).run P w= .ok (.slice A k cap) w)
  (q1:0 < n->∀A,(n:Int)<=9223372036854775807->n*i.bytes<=281474976710656->(ap (.slice A 0 0)).run P w= .ok (.slice (some ⟨w.heap.size,0,none⟩) n (grownCap w n 0 e)) (w.drew.alloc (.cells (news.toArray ++ Builtin.zeroCells z.cells (grownCap w n 0 e - n)) e)))
  (q2:0 < n->∀g cur e2 sLen sCap,w.heap[g]? =some (.cells cur e2 (0,0))->sLen+n<=sCap->sLen*i.size+news.length<=cur.size->(n:Int)<=9223372036854775807->n*i.bytes<=281474976710656->
   (ap (.slice (some ⟨g,0,none⟩) sLen sCap)).run P w= .ok (.slice (some ⟨g,0,none⟩) (sLen+n) sCap) (w.setRow g (cur.toList.take (sLen*i.size)++ news ++ cur.toList.drop (sLen*i.size+news.length)).toArray))
  (q3:0 < n->∀(b:Addr) sLen sCap (olds:Q8),olds.length=sLen*i.size->(∀j v,olds[j]? =some v->w.cell? (b.add j)=some v)->sCap < sLen+n->((sLen+n:Nat):Int)<=9223372036854775807->n*i.bytes<=281474976710656->Builtin.nextslicecap (sLen+n) sCap*i.bytes<=281474976710656->
   (ap (.slice (some b) sLen sCap)).run P w= .ok (.slice (some ⟨w.heap.size,0,none⟩) (sLen+n) (grownCap w (sLen+n) sCap e))
    (w.drew.alloc (.cells (olds.toArray ++ news.toArray ++ Builtin.zeroCells z.cells (grownCap w (sLen+n) sCap e - (sLen+n))) e)))
  (h: ∀(u:Value) (w':World) (m':Q9) (β':Ym) (ν':Own),Inv num N w0 m0 T β0 {σ with bs:=bs2} a w' m' β' ν'->Wo num β' w' m' ν' .f (fun i=> .fc i) v2 u->(TyA β e (.gs id o1 sz1 k)->TyA β' e v2)->next (a.put o.dst u) w'):o.wp P a w next Q:=by
 subst hbe;unfold VR at hm
 ·simp only at hm;split at hm
  ·rename_i hcond;obtain⟨_,hb⟩:=hcond;have hr0:=hr;simp only[Qa]at hr;obtain⟨A,cap,hu,g3,g4,g5⟩:=hr;have hexec:=hexec _ _ _ hu;have hsmall:k+n<=140737488355328:=Vb (SK _ hby) hb;have hb2:n*i.bytes<=281474976710656:=by
    have:n*i.bytes<=(k+n)*i.bytes:=ZZ _ (by omega);omega
   by_cases hn0:n=0
   ·rw[Qh hn0]at hm;subst hn0;simp only[Qs,QB]at hm;obtain⟨rfl,rfl⟩:=hm;refine Qj (hexec _ _ (q0 rfl _ _ _ g3)) (h _ w m β ν hI ((QD rfl).2 ⟨?_,trivial⟩) fun t=>t);rw[hu]at hr0;exact hr0
   rw[Qe hn0]at hm;have hn:0 < n:=R4 hn0;obtain⟨hyl,hbox⟩:=hN hn;have fresh: ∀(σ2:St) (ν2:Own) (olds:Q8) (co:Qf) (kk capN:Nat),Inv num N w0 m0 T β0 σ2 a w m β ν2->olds.length=kk*i.size->co.length=kk*i.size->
     (∀(j:Nat) (c:AV),co[j]? =some c->∃u,olds[j]? =some u/\u.oneCell'=true/\Qa num β w m c u/\∀p w' m' ν',Q6 w' m' ν' p c u)->kk+n<=capN->capN<=maxLen->
     (∀(u:Value) (w':World) (m':Q9) (β':Ym) (ν':Own),Inv num N w0 m0 T β0 {σ2 with bs:=σ2.bs ++ [co ++ ys]} a w' m' β' ν'->Wo num β' w' m' ν' .f (fun i=> .fc i) (.gs σ2.bs.length 0 i.size (kk+n)) u->(∃kb,β'[σ2.bs.length]? =some kb/\kb.ty=e)->next (a.put o.dst u) w')->
     next (a.put o.dst (.slice (some ⟨w.heap.size,0,none⟩) (kk+n) capN)) (w.drew.alloc (.cells (olds.toArray ++ news.toArray ++ Builtin.zeroCells z.cells (capN - (kk+n))) e)):=by
    intro σ2 ν2 olds co kk capN hI0 hol hcl hco hc1 hc2 hh;obtain⟨rows,hrows⟩: ∃rows:QW,rows=olds.toArray ++ news.toArray ++ Builtin.zeroCells z.cells (capN - (kk+n)):=⟨_,rfl⟩;rw[<- hrows];have hrsz:rows.size=capN*i.size:=by
     rw[hrows];simp only[Tb,Y4,size_zeroCells,hz,hnl,hol];rw[<- ZQ,<- ZQ];congr 1;omega
    have hI2:=(hI0.drew).fresh rows e 0 .f;have hle:Le w m (w.drew.alloc (.cells rows e)) (m1 m w.drew.heap.size 0):=(Zm.alloc (fun _=>False) w.drew m rows e 0).le;have hI3:=hI2.toBox (b:=w.heap.size) (cur:=rows) (e:=e) (cs:=co ++ ys) (heap_alloc_new w.drew _) (by simp[ZA]) (by simp[m1]) (by
      rw[Zf,hcl,hyl,hrsz,<- ZQ];exact ZZ _ hc1)
     fun i0 c hc=>by
      by_cases hi0:i0 < co.length
      ·rw[ZO hi0]at hc;obtain⟨u,q1,q2,q3,q4⟩:=hco i0 c hc;refine⟨u,?_,q2,QU (Ge.refl β) hle c u q3,q4⟩;rw[hrows,JE,Vj (by simp;omega)];simpa using q1
      ·rw[Yn (by omega)]at hc;obtain⟨u,q1,q2,q3,q4⟩:=hbox _ c hc;refine⟨u,?_,q2,QU (Ge.refl β) hle c u q3,q4⟩;have hlt:i0 - co.length < news.length:=by
        rcases QL (i0 - co.length) news.length with h | h
        ·exact h
        ·rw[QT h]at q1;cases q1
       rw[hrows,Vj (by simp;omega),OZ (by simp;omega)];rw[show i0 - olds.toArray.size=i0 - co.length by simp;omega];simpa using q1
    refine hh _ _ _ _ _ hI3 ((QD rfl).2 ⟨?_,trivial⟩) ⟨_,by rw[<- hI0.blen];exact Wq,rfl⟩;simp only[Qa];exact⟨_,capN,rfl,hc1,hc2,.inr ⟨⟨w.heap.size,rows.size,false,e⟩,⟨by rw[<- hI0.blen];simp,rfl⟩,rfl,by simp[hrsz],hsz⟩⟩
   by_cases hz0:sz1=0/\k=0
   ·rw[Qh hz0]at hm;obtain⟨rfl,rfl⟩:=hz0;simp only[Qs,QB]at hm;obtain⟨rfl,rfl⟩:=hm;have hcap:cap=0:=by
     rcases g5 with g5 | ⟨_,_,_,_,h5⟩
     ·exact g5.2.1
     ·omega
    subst hcap;have hrun:=q1 hn A (by omega) hb2;have hf:=fresh σ ν [] [] 0 (grownCap w n 0 e) hI (by simp) (by simp) (fun j c hj=>by simp at hj) (by rw[QP];exact grownCap_ge w n 0 e)
     (grownCap_le_maxLen w n 0 e (by unfold maxLen;omega)) (fun u w' m' β' ν' i1 i2 i3=>h u w' m' β' ν' (by simpa using i1) (by simpa using i2) fun _=> .inr (by simpa using i3))
    simp only[QP,JF]at hf;exact Qj (hexec _ _ hrun) hf
   ·rw[Qe hz0]at hm;split at hm
    ·rename_i hzz1;obtain⟨rfl,rfl⟩:=hzz1;cases hbs:σ.bs[id]? with
     | none=>rw[hbs]at hm;cases hm
     | some cs=>
      rw[hbs]at hm;simp only[Qt]at hm;split at hm
      ·rename_i hcc;obtain⟨hne,hcl⟩:=hcc;have htied: ∃kb:Blk,(β[id]? =some kb/\kb.mp=false)/\A=some ⟨kb.b,0,none⟩/\cap*i.size=kb.z:=by
        rcases g5 with⟨q1,q2,q3⟩ | ⟨kb,q1,q2,q3,_⟩
        ·rcases q3 with q3 | ⟨kb,q3,q4⟩
         ·omega
         ·exfalso;obtain⟨cur,e2,p1,p2,_⟩:=(hI.boxes id cs kb hbs q3.1 hne).1 q3.2;have:cs.length=0:=by omega
          exact hne (VK this)
        ·exact⟨kb,q1,q2,by omega⟩
       obtain⟨kb,hkb,rfl,hcz⟩:=htied;by_cases hin: (k+n)*i.size<=cs.length
       ·-- in place
        rw[Qh hin]at hm;simp only[Qs,QB]at hm;obtain⟨rfl,rfl⟩:=hm;obtain⟨cur,e2,hbk,⟨hzc,hzl⟩,hcur,hfin⟩:=hI.setG (cs':=put cs (k*i.size) ys) id hbs hkb hne;have hroom:k+n<=cap:=by
         have: (k+n)*i.size<=cap*i.size:=by omega
         exact Nat.le_of_mul_le_mul_right this hsz
        have hkn: (k+n)*i.size=k*i.size+n*i.size:=ZQ _ _ _;have hrun:=q2 hn _ _ _ _ _ hbk hroom (by omega) (by omega) hb2;have hpl:k*i.size+ys.length<=cs.length:=by omega
        have hrow:=V3 (cs:=cs) (vs:=ys) (cur:=cur) (us:=news) (by omega) hpl (by omega)
         (R:=fun j c u=>u.oneCell'=true/\Qa num β w m c u/\Q6 w m ν (.gc id j) c u) (S:=fun _ c u=>u.oneCell'=true/\Qa num β w m c u/\∀p w' m' ν',Q6 w' m' ν' p c u) hcur hbox
        refine Qj (hexec _ _ hrun) (h _ _ m β _ (hfin (fun p=>p) _ (fun _=>rfl) (fun _ _=>rfl) (fun _=>rfl) (fun _ _=>rfl) ?_ ?_ ?_) ((QD rfl).2 ⟨?_,trivial⟩) fun t=> .inr (t.resolve_left fun q=>by omega))
        ·exact hrow.1.trans hzc
        ·rw[Up _ _ _ hpl];exact hzl
        ·intro j c hj;obtain⟨u,q1,q2⟩:=hrow.2 j c hj;refine⟨u,q1,?_⟩;have hneν:ν kb.b≠some (.gc id j):=by
          obtain⟨_,_,_,_,_,hν,_⟩:=(hI.boxes id cs _ hbs hkb.1 hne).1 hkb.2;rw[hν];simp
         rcases q2 with⟨k1,k3,k4⟩ | ⟨_,_,k1,k3,k4⟩
         ·exact⟨k1,k3,_,k4,rfl,hneν⟩
         ·exact⟨k1,k3,.gc id j,k4 _ _ _ _,rfl,hneν⟩
        ·simp only[Qa];exact⟨_,cap,rfl,hroom,g4,.inr ⟨kb,hkb,rfl,by omega,hsz⟩⟩
       ·rw[Qe hin]at hm;simp only[Qs,QB]at hm;obtain⟨rfl,rfl⟩:=hm;obtain⟨cur,e2,p1,p2,p3,p4,p5⟩:=(hI.boxes id cs kb hbs hkb.1 hne).1 hkb.2;obtain⟨hK,_⟩:=hI.kill (id:=id) (q:=0) hbs hkb hne;rw[WP p3]at hK;have hco: ∀(j:Nat) (c:AV),((cs.take (k*i.size)).map AV.strip)[j]? =some c->∃u,(cur.toList.take (k*i.size))[j]? =some u/\u.oneCell'=true/\Qa num β w m c u/\∀p w' m' ν',Q6 w' m' ν' p c u:=fun j c hc=>by
         obtain⟨d,hd,rfl⟩:=Q0 hc;rw[Ws]at hd;split at hd
         ·rename_i hj;obtain⟨u,r1,r2,r3,_⟩:=p5 j d hd;exact⟨u,by rw[XC hj];simpa using r1,r2,by rw[QE];exact r3,fun _ _ _ _=>ZK _ _ _⟩
         ·cases hd
        have hol: (cur.toList.take (k*i.size)).length=k*i.size:=by rw[YO,VC];omega
        have hcol: ((cs.take (k*i.size)).map AV.strip).length=k*i.size:=by rw[Wa,YO];omega
        by_cases hroom:k+n<=cap
        ·have hkn: (k+n)*i.size=k*i.size+n*i.size:=ZQ _ _ _;have hcn: (k+n)*i.size<=cap*i.size:=ZZ _ hroom;have hfit:k*i.size+news.length<=cur.size:=by omega
         have hfit2:k*i.size+news.length<=cur.toList.length:=by simpa using hfit
         have hrun:=q2 hn _ _ _ _ _ p1 hroom hfit (by omega) hb2;have hS:=hK.setFloat (cur':=(cur.toList.take (k*i.size)++ news ++ cur.toList.drop (k*i.size+news.length)).toArray) (k:=0) p1 (by simp[ZA]) (fun j u hj hcu=>by omega) (by omega);rw[WP p3]at hS;have hle:=(Zm.setRow (m:=m) (cur':=(cur.toList.take (k*i.size)++ news ++ cur.toList.drop (k*i.size+news.length)).toArray) (k:=0) p1 (fun j u hj hcu=>by omega) (by omega)).le;rw[WP p3]at hle;have hrs: (cur.toList.take (k*i.size)++ news ++ cur.toList.drop (k*i.size+news.length)).toArray.size=cur.size:=by
          rw[Y4,Xs _ _ _ hfit2];simp
         have hI3:=hS.toBox (b:=kb.b) (e:=e2) (cs:=(cs.take (k*i.size)).map AV.strip ++ ys) (setRow_heap w kb.b cur _ e2 (0,0) p1) (by simp[ZA]) p3 (by rw[Zf,hcol,hyl,hrs];omega)
          fun i0 c hc=>by
           rw[SM]at hc;split at hc
           ·rename_i hi0;obtain⟨u,r1,r2,r3,r4⟩:=hco i0 c hc;refine⟨u,?_,r2,QU (Ge.refl β) hle c u r3,r4⟩;rw[hcol]at hi0;rw[UW,YT _ _ _ hfit2,Qh hi0];rwa[XC hi0]at r1
           ·rename_i hi0;rw[hcol]at hi0 hc;obtain⟨u,r1,r2,r3,r4⟩:=hbox _ c hc;refine⟨u,?_,r2,QU (Ge.refl β) hle c u r3,r4⟩;have hlt:i0 - k*i.size < news.length:=by
             rcases QL (i0 - k*i.size) news.length with h | h
             ·exact h
             ·rw[QT h]at r1;cases r1
            rw[UW,YT _ _ _ hfit2,Qe hi0,Qh (by omega)];exact r1
         have hI4:=hI3;simp only[Pc]at hI4;have hty:TyA β e (.gs id 0 i.size k)->e2=e:=fun t=>by
          obtain⟨c9,h9⟩:=(hI.boxes id cs kb hbs hkb.1 hne).2.2 hkb.2;have h8:=p1.symm.trans h9;simp only[Qs,Obj.cells.injEq]at h8;rcases t with t | ⟨k9,t1,t2⟩
          ·omega
          ·rw[hkb.1]at t1;injection t1 with t1
           rw[h8.2.1,t1,t2]
         refine Qj (hexec _ _ hrun) (h _ _ _ _ _ hI4 ((QD rfl).2 ⟨?_,trivial⟩) fun t=> .inr ⟨_,by rw[<- hI.blen];exact Wq,hty t⟩);simp only[Qa];have hbl:β.length=σ.bs.length:=hI.blen;refine⟨some ⟨kb.b,0,none⟩,cap,rfl,hroom,g4,.inr ⟨⟨kb.b,(cur.toList.take (k*i.size)++ news ++ cur.toList.drop (k*i.size+news.length)).toArray.size,false,_⟩,⟨by rw[<- hbl];exact Wq,rfl⟩,rfl,?_,hsz⟩⟩;simp only[hrs];omega
        ·have holds: ∀j u,(cur.toList.take (k*i.size))[j]? =some u->w.cell? ((⟨kb.b,0,none⟩:Addr).add j)=some u:=fun j u hj=>by
          rw[ZI,QP,cell_of_row w kb.b j cur e2 (0,0) p1];rw[Ws]at hj;split at hj
          ·simpa using hj
          ·cases hj
         have hrun:=q3 hn ⟨kb.b,0,none⟩ k cap _ hol holds (by omega) (by omega) hb2 (growslice_fits (by omega) hb);have hf:=fresh _ _ (cur.toList.take (k*i.size)) ((cs.take (k*i.size)).map AV.strip) k (grownCap w (k+n) cap e) hK hol hcol hco (grownCap_ge w _ cap e) (grownCap_le_maxLen w _ cap e (by unfold maxLen;omega)) (fun u w' m' β' ν' i1 i2 i3=>h u w' m' β' ν' (by simpa using i1) (by simpa using i2) fun _=> .inr (by simpa using i3));exact Qj (hexec _ _ hrun) hf
      ·cases hm
    ·cases hm
  ·cases hm
def ML [Dr] {bytes n:Nat} {s:AO} {s':Operand} {e:TypeId} {i:TypeInfo} {z:Value} {ys:Qf} {news:Q8} {ap:Value->Sem Value} {v2:AV} {bs2:Qd}
  (hI:Inv num N w0 m0 T β0 σ a w m β ν) (hs:okO num s s'=true) (hby:0 < i.bytes) (hbe:i.bytes=bytes) (hsz:0 < i.size) (hz:z.cells.size=i.size) (hm:VR bytes i.size (val σ.env s) (n,ys) σ.bs=some (v2,bs2))
  (hnl:news.length=n*i.size) (hone: ∀u∈news,u.oneCell'=true)
  (hN:0 < n->ys.length=n*i.size/\∀(j:Nat) (c:AV),ys[j]? =some c->∃u,news[j]? =some u/\u.oneCell'=true/\Qa num β w m c u/\∀p w' m' ν',Q6 w' m' ν' p c u)
  (hexec: ∀A k cap,a.eval s'= .slice A k cap->∀r w',(ap (.slice A k cap)).run P w= .ok r w'->(execOp a.eval o).run P w= .ok (.value r) w')
  (q0:n=0->∀A k cap,k<=cap->(ap (.slice A k cap)).run P w= .ok (.slice A k cap) w)
  (q1:0 < n->∀A,(n:Int)<=9223372036854775807->n*i.bytes<=281474976710656->(ap (.slice A 0 0)).run P w= .ok (.slice (some ⟨w.heap.size,0,none⟩) n (grownCap w n 0 e)) (w.drew.alloc (.cells (news.toArray ++ Builtin.zeroCells z.cells (grownCap w n 0 e - n)) e)))
  (q2:0 < n->∀g cur e2 sLen sCap,w.heap[g]? =some (.cells cur e2 (0,0))->sLen+n<=sCap->sLen*i.size+news.length<=cur.size->(n:Int)<=9223372036854775807->n*i.bytes<=281474976710656->
   (ap (.slice (some ⟨g,0,none⟩) sLen sCap)).run P w= .ok (.slice (some ⟨g,0,none⟩) (sLen+n) sCap) (w.setRow g (cur.toList.take (sLen*i.size)++ news ++ cur.toList.drop (sLen*i.size+news.length)).toArray))
  (q3:0 < n->∀(b:Addr) sLen sCap (olds:Q8),olds.length=sLen*i.size->(∀j v,olds[j]? =some v->w.cell? (b.add j)=some v)->sCap < sLen+n->((sLen+n:Nat):Int)<=9223372036854775807->n*i.bytes<=281474976710656->Builtin.nextslicecap (sLen+n) sCap*i.bytes<=281474976710656->
   (ap (.slice (some b) sLen sCap)).run P w= .ok (.slice (some ⟨w.heap.size,0,none⟩) (sLen+n) (grownCap w (sLen+n) sCap e))
    (w.drew.alloc (.cells (olds.toArray ++ news.toArray ++ Builtin.zeroCells z.cells (grownCap w (sLen+n) sCap e - (sLen+n))) e)))
  (h:Aft num N w0 m0 T β0 {σ with bs:=bs2} a v2 fun u w'=>next (a.put o.dst u) w'):o.wp P a w next Q:=by
 cases hA:val σ.env s with
 | gs id o1 sz1 k=>
  have hr:=(hI.val hs (by rw[hA];rfl)).1;rw[hA]at hr hm;exact Rf hI hr hby hbe hsz hz hm hnl hone hN hexec q0 q1 q2 q3 fun u w' m' β' ν' i1 i2 _=>h u w' m' β' ν' i1 i2
 | _=>rw[hA]at hm;cases hm
def QbP (bytes sz:Nat) (s x:AV) (bs:Qd):appM bytes sz s x bs=(WF sz x bs).bind fun q=>VR bytes sz s q bs:=by
 unfold appM VR;cases s <;> cases WF sz x bs <;> rfl
def Qcu [Dr] {bytes sz:Nat} {s x:AO} {s' x':Operand} {t:TypeId} (hI:Inv num N w0 m0 T β0 σ a w m β ν) (ho:o.op= .call {callee:= .builtin .append,args:= #[s',x'],argTypes:= #[t,t]})
  (ht:Xj P t bytes sz=true) (hs:okO num s s'=true) (hx:okO num x x'=true)
  (he:Qg K (.appM bytes sz s x) σ=some (v,σ1)) (h:Aft num N w0 m0 T β0 σ1 a v fun u w'=>next (a.put o.dst u) w'):o.wp P a w next Q:=by
 simp only[Qg]at he;cases hm:appM bytes sz (val σ.env s) (val σ.env x) σ.bs with
 | none=>rw[hm]at he;cases he
 | some p=>
  rw[hm]at he;obtain⟨v2,bs2⟩:=p;simp only[QA,Qs,QB]at he;obtain⟨rfl,rfl⟩:=he;rw[QbP]at hm;cases hsrc:WF sz (val σ.env x) σ.bs with
  | none=>rw[hsrc]at hm;cases hm
  | some q=>
   obtain⟨n,ys⟩:=q;rw[hsrc]at hm;simp only[Qt]at hm;have hxok: (val σ.env x).ok=true:=by
    unfold WF at hsrc;split at hsrc
    ·rename_i h;rw[h];rfl
    ·rename_i h;rw[h];rfl
    ·cases hsrc
   have hry:=(hI.val hx hxok).1;unfold Xj at ht;split at ht
   ·rename_i e hun;split at ht
    ·rename_i i hi;simp only[Qi,Qm]at ht;obtain⟨⟨⟨⟨rfl,rfl⟩,hsz⟩,hby⟩,hz⟩:=ht;split at hz
     ·rename_i z hzz;simp only[Qm]at hz;obtain⟨B,cap2,hY,hN⟩:=Hg hI hsz hsrc hry;obtain⟨news,hB,hnl,hone,hN2⟩: ∃news:Q8,(0 < n->∃b2 of2,B=some ⟨b2,of2,none⟩/\∀j u,news[j]? =some u->w.cell? ((⟨b2,of2,none⟩:Addr).add j)=some u)/\news.length=n*i.size/\(∀u∈news,u.oneCell'=true)/\
        (0 < n->ys.length=n*i.size/\∀(j:Nat) (c:AV),ys[j]? =some c->∃u,news[j]? =some u/\u.oneCell'=true/\Qa num β w m c u/\∀p w' m' ν',Q6 w' m' ν' p c u):=by
       by_cases hn:0 < n
       ·obtain⟨b2,of2,news,hb,hnl,hnews,hone,hyl,hbox⟩:=hN hn;exact⟨news,fun _=>⟨b2,of2,hb,fun j u hj=>by rw[ZI];exact hnews j u hj⟩,hnl,hone,fun _=>⟨hyl,hbox⟩⟩
       ·have:n=0:=by omega
        subst this;exact⟨[],fun h=>absurd h (by omega),by simp,by simp,fun h=>absurd h (by omega)⟩
      refine ML (e:=e) (z:=z) (ap:=fun s=>Builtin.append_ #[t,t] o.type #[s,.slice B n cap2]) hI hs hby rfl hsz hz hm hnl hone hN2 (fun A k cap hu r w' hrr=> ?_) (fun h0 A k cap hk=> ?_) (fun hn A h1 h2=> ?_) (fun hn g cur e2 sLen sCap hg hr hf h1 h2=> ?_) (fun hn b sLen sCap olds h1 h2 h3 h4 h5 h6=> ?_) h
      ·simp only[execOp,ho,resolve,invoke,builtin,Vk,ZP,Y5,hu,hY,Sem.run_bind,Sem.run_pure,Result.andThen_ok,hrr]
      ·subst h0;exact W4 hun hi hk
      ·obtain⟨b2,of2,rfl,hnews⟩:=hB hn;exact WD hun hi hzz hnl hnews hn h1 h2
      ·obtain⟨b2,of2,rfl,hnews⟩:=hB hn;exact YC hun hi hg hnl hnews hone hr hf
      ·obtain⟨b2,of2,rfl,hnews⟩:=hB hn;exact run_append_grow w t o.type e i z hun hi hzz b sLen sCap olds h1 h2 ⟨b2,of2,none⟩ n cap2 news hnl hnews h3 h4 h6
     ·cases hz
    ·cases ht
   ·cases ht
def FN (P:Program) (t:TypeId):Bool:=match P.underlying t with
 | some (.int .i64)=>true
 | _=>false
def O0:=@Int.toNat_natCast
def Qhg [Dr] {bytes sz:Nat} {zs:Qf} {s x:AO} {s' x':Operand} {t t2:TypeId} (hI:Inv num N w0 m0 T β0 σ a w m β ν) (ho:o.op= .call {callee:= .builtin .append,args:= #[s',x'],argTypes:= #[t,t2]})
  (ht:Xj P t bytes sz=true) (hM:mkT P t bytes sz zs=true) (h2:FN P t2=true) (hs:okO num s s'=true) (hx:okO num x x'=true)
  (he:Qg K (.apn bytes sz zs s x) σ=some (v,σ1)) (h:Aft num N w0 m0 T β0 σ1 a v fun u w'=>next (a.put o.dst u) w'):o.wp P a w next Q:=by
 simp only[Qg]at he;split at he
 ·rename_i n hn;split at he
  ·rename_i hc;obtain⟨h0,hb⟩:=hc;obtain⟨n,rfl⟩:=Int.eq_ofNat_of_zero_le h0;simp only[O0]at he hb;cases hm:VR bytes sz (val σ.env s) (n,(List.replicate n zs).flatten) σ.bs with
   | none=>rw[hm]at he;cases he
   | some p=>
    rw[hm]at he;obtain⟨v2,bs2⟩:=p;simp only[QA,Qs,QB]at he;obtain⟨rfl,rfl⟩:=he;have hv:=(hI.val hx (by rw[hn];rfl)).1;rw[hn]at hv;simp only[Qa]at hv;have hu2:P.underlying t2=some (.int .i64):=by
     unfold FN at h2;split at h2
     ·assumption
     ·cases h2
    unfold Xj at ht;split at ht
    ·rename_i e hun;split at ht
     ·rename_i i hi;simp only[Qi,Qm]at ht;obtain⟨⟨⟨⟨rfl,rfl⟩,hsz⟩,hby⟩,hz⟩:=ht;split at hz
      ·rename_i z hzz;simp only[Qm]at hz;simp only[mkT,hun,hi,hzz,SP,We]at hM;obtain⟨hl,hcs⟩:=ZX _ _ hM;have hzs:zs.length=z.cells.size:=by have h9:=hl;simp at h9;exact h9.symm
       have hzp:0 < z.cells.size:=by omega
       have hb2:n*i.bytes<=281474976710656:=by omega
       have hn63: (n:Int)<=9223372036854775807:=by
        have:n<=n*i.bytes:=SK _ hby;omega
       have hzl:=Ab z.cells n;rw[hz]at hzl;have hget: ∀(j:Nat) (c:AV),(List.replicate n zs).flatten[j]? =some c->∃u,(Builtin.zeroCells z.cells n).toList[j]? =some u/\u.oneCell'=true/\Qa num β w m c u/\∀p w' m' ν',Q6 w' m' ν' p c u:=fun j c hj=>by
        have hjl:j < n*z.cells.size:=by
         rcases QL j (List.replicate n zs).flatten.length with h | h
         ·simpa[hzs]using h
         ·rw[QT h]at hj;cases hj
        have hj2:=Ru zs n j c hj;obtain⟨u,g1,g2⟩:=hcs _ c hj2;have hg:=Q5 (num:=num) (β:=β) (w:=w) (m:=m) (ν:=ν) g2;refine⟨u,?_,hg.2.1,hg.1,fun p w' m' ν'=>(Q5 (num:=num) (β:=β) (w:=w') (m:=m') (ν:=ν') g2).2.2 p⟩;have hlt:j % z.cells.size < z.cells.size:=T2 _ hzp;rw[hzs]at g1;have g1':z.cells[j % z.cells.size]? =some u:=by simpa using g1
        rw[YL hlt]at g1';injection g1' with g1'
        unfold Builtin.zeroCells;rw[SL,Nd,O8,Qh hjl];simp only[QA,Qs];rw[Xw z.cells _ hlt];exact g1'
       have hone1: ∀u∈z.cells,u.oneCell'=true:=fun u hu=>by
        obtain⟨j,hj,rfl⟩:=Array.getElem_of_mem hu;have hjz:j < zs.length:=by omega
        obtain⟨u2,g1,g2⟩:=hcs j _ (Zr hjz);have hg:=(Q5 (num:=num) (β:=β) (w:=w) (m:=m) (ν:=ν) g2).2.1;have g1':z.cells[j]? =some u2:=by simpa using g1
        rw[YL hj]at g1';injection g1' with g1'
        rw[g1'];exact hg
       have hone: ∀u∈(Builtin.zeroCells z.cells n).toList,u.oneCell'=true:=fun u hu=>by
        simp only[Builtin.zeroCells,Array.toList_map,Td]at hu;obtain⟨j,_,rfl⟩:=hu;have hmm:=T2 j hzp;rw[Xw z.cells (j % z.cells.size) hmm];exact hone1 _ (Array.getElem_mem hmm)
       have hpos:0 < n->0 < n*i.size:=fun h=>Uc h hsz;refine ML (e:=e) (z:=z) (ap:=fun s=>Builtin.append_ #[t,t2] o.type #[s,.int .i64 n]) hI hs hby rfl hsz hz hm hzl hone (fun h=>⟨by simp[hzs,hz],hget⟩) (fun A k cap hu r w' hrr=> ?_) (fun h0 A k cap hk=> ?_) (fun hn A h1 h2=> ?_)
        (fun hn g cur e2 sLen sCap hg hr hf h1 h2=> ?_) (fun hn b sLen sCap olds h1 h2 h3 h4 h5 h6=> ?_) h
       ·simp only[execOp,ho,resolve,invoke,builtin,Vk,ZP,Y5,hu,hv,Sem.run_bind,Sem.run_pure,Result.andThen_ok,hrr]
       ·subst h0;exact LB hun hu2 hi hk
       ·have:=RO (w:=w) (ty:=o.type) (base:=A) (sLen:=0) (sCap:=0) (k:=n) (olds:=[]) hun hu2 hi hzz (by simp) (by cases A <;> simp[Builtin.firstCells,loadCells,loadCellsFrom]) (hpos hn) (by omega) (by simpa using h1) h2 (by rw[QP,nextslicecap_zero hn];exact h2);simpa using this
       ·exact HN hun hu2 hi hzz hz hg hone1 (hpos hn) h1 h2 hr (by rw[<- hzl];exact hf)
       ·exact RO hun hu2 hi hzz h1 (run_firstCells_some (P:=P) w.drew i.size sLen b sLen sCap olds h1 (by simpa using h2)) (hpos hn) h3 h4 h5 h6
      ·cases hz
     ·cases ht
    ·cases ht
  ·cases he
 ·cases he
def QcW [Dr] {sz:Nat} {x:AO} {lo hi:Option AO} {x':Operand} {lo' hi':Option Operand} {t:TypeId} (hI:Inv num N w0 m0 T β0 σ a w m β ν) (ho:o.op= .slice t x' lo' hi' none) (ht:Yu P t sz=true) (hx:okO num x x'=true)
  (hlo:XF num lo lo'=true) (hhi:XF num hi hi'=true)
  (he:Qg K (.slcx sz x lo hi) σ=some (v,σ1)) (h:Aft num N w0 m0 T β0 σ1 a v fun u w'=>next (a.put o.dst u) w'):o.wp P a w next Q:=by
 simp only[Qg]at he;split at he
 ·rename_i id of sz1 kn hA;split at he
  ·rename_i hsz;obtain⟨rfl,hszp⟩:=hsz;cases hbs:σ.bs[id]? with
   | none=>rw[hbs]at he;cases he
   | some cs=>
    rw[hbs]at he;simp only[Qt]at he;cases hb1:Zb ((cs.length - of) / sz1) kn (hi.map (val σ.env))with
    | none=>rw[hb1]at he;cases he
    | some H=>
     rw[hb1]at he;simp only[Qt]at he;cases hb2:Zb H 0 (lo.map (val σ.env))with
     | none=>rw[hb2]at he;cases he
     | some L=>
      rw[hb2]at he;injection he with he
      injection he with h1 h2
      subst h1 h2;have g1:=(hI.val hx (by rw[hA];rfl)).1;rw[hA]at g1;simp only[Qa]at g1;obtain⟨A,cap,g1,g3,g4,g5⟩:=g1;have hbig: (cs.length - of) / sz1<=cap:=by
       by_cases hne:cs=[]
       ·subst hne;simp
       rcases g5 with⟨q1,q2,q3⟩ | ⟨kb,q1,q2,q3,_⟩
       ·rcases q3 with q3 | ⟨kb,q3,q4⟩
        ·omega
        ·obtain⟨cur,e2,p1,p2,_⟩:=(hI.boxes id cs kb hbs q3.1 hne).1 q3.2;have:cs.length - of=0:=by omega
         rw[this];simp
       ·obtain⟨cur,e2,p1,p2,_⟩:=(hI.boxes id cs kb hbs q1.1 hne).1 q1.2;have:cs.length - of<=cap*sz1:=by omega
        exact Nat.div_le_of_le_mul (by rw[Nq];exact this)
      have hH:H<=cap:=by
       rcases Zl hI hhi hb1 with⟨_,rfl⟩ | ⟨_,_,h,_⟩ <;> omega
      have hL:L<=H:=by
       rcases Zl hI hlo hb2 with⟨_,rfl⟩ | ⟨_,_,h,_⟩ <;> omega
      have e1: (hi'.map a.eval=none/\H=kn)\/∃kd,hi'.map a.eval=some (.int kd (H:Int)):=by
       rcases Zl hI hhi hb1 with⟨rfl,rfl⟩ | ⟨y',rfl,_,kd,hk⟩
       ·exact .inl ⟨rfl,rfl⟩
       ·exact .inr ⟨kd,by simp[hk]⟩
      have e2: (lo'.map a.eval=none/\L=0)\/∃kd,lo'.map a.eval=some (.int kd (L:Int)):=by
       rcases Zl hI hlo hb2 with⟨rfl,rfl⟩ | ⟨y',rfl,_,kd,hk⟩
       ·exact .inl ⟨rfl,rfl⟩
       ·exact .inr ⟨kd,by simp[hk]⟩
      unfold Yu at ht;split at ht
      ·rename_i e hu;refine Qj (u:= .slice (if cap=L then A else A.map (·.add (L*sz1))) (H - L) (cap - L)) (w':=w) ?_ (h.same hI rfl ?_ trivial)
       ·simp only[execOp,ho,g1,Instr.sliceAt,Instr.slice,Sem.run_bind,run_underlying hu,Result.andThen_ok,TX];rw[XY e1 e2 (by omega) hL];simp only[Result.andThen_ok,Zc ht];rfl
       ·simp only[Qa];refine⟨_,_,rfl,by omega,by omega,?_⟩;by_cases hLH:cap=L
        ·left;refine⟨by omega,by omega,?_⟩;rcases g5 with⟨q1,q2,q3⟩ | ⟨kb,q1,q2,q3,_⟩
         ·rcases q3 with q3 | ⟨kb,q3,q4⟩
          ·omega
          ·exact .inr ⟨kb,q3,by omega,hszp⟩
         ·exact .inr ⟨kb,q1,by rw[hLH]at q3;exact Pg q3.symm,hszp⟩
        ·rcases g5 with⟨q1,q2,q3⟩ | ⟨kb,g5,rfl,g6,_⟩
         ·clear q3;omega
         ·right;have hmul:L*sz1+ (cap - L)*sz1=cap*sz1:=by rw[<- ZQ];congr 1;omega
          exact⟨kb,g5,by rw[Qe (by omega)];simp[ZI],by omega,hszp⟩
      ·cases ht
  ·cases he
 ·cases he
def Sc {l h mx len cap:Nat} {lo:QgR} {kh km:IntKind} (hl: (lo=none/\l=0)\/∃kd,lo=some (.int kd (l:Int)))
  (h0:mx<=cap) (h1:h<=mx) (h2:l<=h): (Instr.sliceBounds true len cap lo (some (.int kh (h:Int))) (some (.int km (mx:Int)))).run P w= .ok (l,h,mx) w:=by
 have hb: ∀(kd:IntKind) (n y:Nat) (c:BoundsCode),n<=y->(Instr.sliceBound (.int kd (n:Int)) y c).run P w= .ok n w:=fun kd n y c hn=>by
  simp only[Instr.sliceBound,asIntOf,Sem.run_bind,Sem.run_pure,Result.andThen_ok];rw[Qh (by omega)];rfl
 rcases hl with⟨rfl,rfl⟩ | ⟨kd2,rfl⟩ <;> simp only[Instr.sliceBounds,Sem.run_bind,Sem.run_pure,Result.andThen_ok,hb _ _ _ _ h0,hb _ _ _ _ h1,hb _ _ _ _ h2]
def QcT [Dr] {sz:Nat} {x hi mx:AO} {x' hi' mx':Operand} {t:TypeId} (hI:Inv num N w0 m0 T β0 σ a w m β ν) (ho:o.op= .slice t x' none (some hi') (some mx')) (ht:Yu P t sz=true) (hx:okO num x x'=true)
  (hhi:okO num hi hi'=true) (hmx:okO num mx mx'=true)
  (he:Qg K (.slcf sz x hi mx) σ=some (v,σ1)) (h:Aft num N w0 m0 T β0 σ1 a v fun u w'=>next (a.put o.dst u) w'):o.wp P a w next Q:=by
 simp only[Qg]at he;split at he
 ·rename_i o2 sz1 xs hA;split at he
  ·rename_i hsz;subst hsz;cases hb0:Zb xs.length 0 (some (val σ.env mx))with
   | none=>rw[hb0]at he;cases he
   | some M=>
    rw[hb0]at he;simp only[Qt]at he;cases hb1:Zb M 0 (some (val σ.env hi))with
    | none=>rw[hb1]at he;cases he
    | some H=>
     rw[hb1]at he;simp only[Qt]at he;split at he
     ·rename_i hHM;subst hHM;injection he with he
      injection he with h1 h2
      subst h1 h2;have g1:=(hI.val hx (by rw[hA];rfl)).1;rw[hA]at g1;simp only[Qa]at g1;obtain⟨A,len,cap,g1,g2,g3,g4,g5⟩:=g1;have q0:H<=xs.length/\∃kd,a.eval mx'= .int kd (H:Int):=by
       rcases Zl (x:=some mx) (y:=some mx') hI hmx hb0 with⟨h,_⟩ | ⟨y',hy,h,kd,hk⟩
       ·cases h
       ·injection hy with hy;subst hy;exact⟨h,kd,hk⟩
      have q1: ∃kd,a.eval hi'= .int kd (H:Int):=by
       rcases Zl (x:=some hi) (y:=some hi') hI hhi hb1 with⟨h,_⟩ | ⟨y',hy,h,kd,hk⟩
       ·cases h
       ·injection hy with hy;subst hy;exact⟨kd,hk⟩
      obtain⟨q0,km,hkm⟩:=q0;obtain⟨kh,hkh⟩:=q1;unfold Yu at ht;split at ht
      ·rename_i e hu2;refine Qj (u:= .slice (if H=0 then A else A.map (·.add (0*sz1))) (H - 0) (H - 0)) (w':=w) ?_ (h.same hI rfl ?_ (.inl ⟨_,_,rfl⟩))
       ·simp only[execOp,ho,g1,hkm,hkh,Instr.sliceAt,Instr.slice,Sem.run_bind,run_underlying hu2,Result.andThen_ok,QA,TX];rw[Sc (.inl ⟨rfl,rfl⟩) (by omega) (Za _) (Te _)];simp only[Result.andThen_ok,Zc ht];rfl
       ·simp only[Qa];refine⟨_,_,_,rfl,by rw[YO];omega,Za _,by omega,?_⟩;rcases g5 with g5 | ⟨b,of,rfl,g5⟩
        ·exact .inl (by rw[g5];simp)
        ·by_cases hH0:H=0
         ·exact .inl (by rw[hH0];simp)
         ·refine .inr ⟨b,of,by rw[Qe hH0];simp[ZI],?_⟩;rw[Yk]at g5 ⊢;intro i y hy;rw[Ws]at hy;split at hy
          ·exact g5 i y hy
          ·cases hy
      ·cases ht
     ·cases he
  ·cases he
 ·cases he
def QcS [Dr] {sz:Nat} {x hi mx:AO} {lo:Option AO} {x' hi' mx':Operand} {lo':Option Operand} {t:TypeId} (hI:Inv num N w0 m0 T β0 σ a w m β ν) (ho:o.op= .slice t x' lo' (some hi') (some mx')) (ht:Yu P t sz=true) (hx:okO num x x'=true)
  (hlo:XF num lo lo'=true) (hhi:okO num hi hi'=true) (hmx:okO num mx mx'=true)
  (he:Qg K (.slcc sz x lo hi mx) σ=some (v,σ1)) (h:Aft num N w0 m0 T β0 σ1 a v fun u w'=>next (a.put o.dst u) w'):o.wp P a w next Q:=by
 simp only[Qg]at he;have key: ∀(kn:Nat) (A:WU) (cap:Nat),a.eval x'= .slice A kn cap->kn<=cap->(Zb kn 0 (some (val σ.env mx))).bind (fun M=>(Zb M 0 (some (val σ.env hi))).bind fun H=>(Zb H 0 (lo.map (val σ.env))).map fun _=>(AV.undef,σ))=some (v,σ1)->o.wp P a w next Q:=by
  intro kn A cap hu hcap he;cases hb0:Zb kn 0 (some (val σ.env mx))with
  | none=>rw[hb0]at he;cases he
  | some M=>
   rw[hb0]at he;simp only[Qt]at he;cases hb1:Zb M 0 (some (val σ.env hi))with
   | none=>rw[hb1]at he;cases he
   | some H=>
    rw[hb1]at he;simp only[Qt]at he;cases hb2:Zb H 0 (lo.map (val σ.env))with
    | none=>rw[hb2]at he;cases he
    | some L=>
     rw[hb2]at he;injection he with he
     injection he with h1 h2
     subst h1 h2;have q0:M<=kn/\∃kd,a.eval mx'= .int kd (M:Int):=by
      rcases Zl (x:=some mx) (y:=some mx') hI hmx hb0 with⟨h,_⟩ | ⟨y',hy,h,kd,hk⟩
      ·cases h
      ·injection hy with hy;subst hy;exact⟨h,kd,hk⟩
     have q1:H<=M/\∃kd,a.eval hi'= .int kd (H:Int):=by
      rcases Zl (x:=some hi) (y:=some hi') hI hhi hb1 with⟨h,_⟩ | ⟨y',hy,h,kd,hk⟩
      ·cases h
      ·injection hy with hy;subst hy;exact⟨h,kd,hk⟩
     obtain⟨q0,km,hkm⟩:=q0;obtain⟨q1,kh,hkh⟩:=q1;have hL:L<=H:=by
      rcases Zl hI hlo hb2 with⟨_,rfl⟩ | ⟨_,_,h,_⟩ <;> omega
     have e2: (lo'.map a.eval=none/\L=0)\/∃kd,lo'.map a.eval=some (.int kd (L:Int)):=by
      rcases Zl hI hlo hb2 with⟨rfl,rfl⟩ | ⟨y',rfl,_,kd,hk⟩
      ·exact .inl ⟨rfl,rfl⟩
      ·exact .inr ⟨kd,by simp[hk]⟩
     unfold Yu at ht;split at ht
     ·rename_i e hu2;refine Qj (u:= .slice (if M=L then A else A.map (·.add (L*sz))) (H - L) (M - L)) (w':=w) ?_ (h _ w m β ν hI trivial);simp only[execOp,ho,hu,hkm,hkh,Instr.sliceAt,Instr.slice,Sem.run_bind,run_underlying hu2,Result.andThen_ok,QA];rw[Sc e2 (by omega) q1 hL];simp only[Result.andThen_ok,Zc ht];rfl
     ·cases ht
 split at he
 ·rename_i o2 sz1 xs hA;have g1:=(hI.val hx (by rw[hA];rfl)).1;rw[hA]at g1;simp only[Qa]at g1;obtain⟨A,len,cap,g1,g2,g3,g4,g5⟩:=g1;subst g2;exact key _ A cap g1 g3 he
 ·rename_i id of sz1 kn hA;have g1:=(hI.val hx (by rw[hA];rfl)).1;rw[hA]at g1;simp only[Qa]at g1;obtain⟨A,cap,g1,g3,g4,g5⟩:=g1;exact key _ A cap g1 g3 he
 ·cases he
end
end Go.Am
namespace Go.Am
def Pl.isG:Pl->Bool
 | .g _=>true
 | .gc _ _=>true
 | _=>false
def Tu (num:Z3) (β:Ym) (w:World) (m:Q9) (ν:Own) (bs:Qd):Prop:=
 β.length=bs.length/\(∀(i:Nat) (cs:Qf) (k:Blk),bs[i]? =some cs->β[i]? =some k->cs≠[]->Sz num β w m ν i k cs)
def VQ [Dr] (num:Z3) (β:Ym) (bs':Qd) (r:AV) (w:World) (m:Q9) (ν:Own) (e:Ending) (w':World):Prop:=
 ∃v m' β' ν',e= .returned v/\Ge β β'/\Zm (fun b=>∃p,ν b=some p) w m w' m'/\Tu num β' w' m' ν' bs'/\r.ok=true/\Qa num β' w' m' r v/\Q6 w' m' ν' .f r v/\
  ∀b p,ν' b=some p->b < w'.heap.size/\(w.heap.size<=b\/∃q,ν b=some q)/\(p.isG=true\/p= .f)
structure Z1 [Dr] where
 G:World->(Nat->Nat)->Prop
 Gb:Nat
 nm:Nat->Nat->Prop
 tab: ∀(w:World) (m:Nat->Nat) (k g:Nat) (num:Nat->Option Nat),G w m->nm k g->∃u,w.cell? ⟨g,0,none⟩=some u/\u.oneCell'=true/\Qa num [] w m (SE k) u
 step: ∀(X:Nat->Prop) (w:World) (m:Nat->Nat) (w':World) (m':Nat->Nat),Zm X w m w' m'->(∀b,X b->Gb<=b)->Gb<=w.heap.size->G w m->G w' m'
def KOk [Dr] (P:Program) (num:Z3) (Γ:Z1) (K:ZJ):Prop:=
 (∀k g,P.globalNamed (PV k)=some g->Γ.nm k g)/\∀(f g:Nat) (args:Qf) (bs:Qd) (r:AV) (bs':Qd),num f=some g->K f args bs=some (r,bs')->Yw args=true->
  ∀(w:World) (m:Q9) (β:Ym) (ν:Own) (vs:QW),Γ.G w m->Γ.Gb<=w.heap.size->vs.size=args.length->
   (∀(i:Nat) (c:AV),args[i]? =some c->∃u,vs[i]? =some u/\Qa num β w m c u)->Tu num β w m ν bs->
   (∀b p,ν b=some p->b < w.heap.size/\Γ.Gb<=b/\p.isG=true)->
   Calls P g vs w (VQ num β bs' r w m ν)
def Xu (P:Program) (num:Z3):Prop:=∀(f g:Nat),num f=some g->∃fn,P.funcs[g]? =some fn/\(fn.name == "runtime.NumGoroutine")=false/\fn.body.isNone=false
section
variable {P:Program} {num:Nat->Option Nat} {β:List Blk} {w w':World} {m:Nat->Nat} {ν:Own} {N:Nat} {w0:World} {m0:Nat->Nat} {T:Nat->Prop} {β0:List Blk} {σ σ1:St} {a:Act}
 {o:Oper} {next:Act->World->Prop} {Q:Exit->Act->World->Prop} {K:ZJ} {v:AV}
def Uj (ν:Own):Own:=fun b=>match ν b with
 | some p=>if p.isG then some p else none
 | none=>none
def Vn {ν:Own} {b:Nat} {p:Pl} (h:Uj ν b=some p):ν b=some p/\p.isG=true:=by
 unfold Uj at h;split at h
 ·split at h
  ·rename_i q hq hg;injection h with h
   subst h;exact⟨hq,hg⟩
  ·cases h
 ·cases h
def Gz {ν:Own} {b:Nat} {p:Pl} (h:ν b=some p) (hg:p.isG=true):Uj ν b=some p:=by
 unfold Uj;rw[h];simp[hg]
def TH (ν ν':Own):Own:=fun b=>match ν b with
 | some p=>if p.isG then ν' b else some p
 | none=>ν' b
def Ad {i:Nat} {kb:Blk} {cs:Qf} {m':Q9} {ν1 ν2:Own} (h:Sz num β w' m' ν1 i kb cs) (k: ∀b p,ν1 b=some p->ν2 b=some p):Sz num β w' m' ν2 i kb cs:=
 YU (Ge.refl β) (Le.refl w' m') (fun x hx=>⟨rfl,rfl,k x _ hx⟩) (fun _ x hx=>⟨rfl,rfl,k x _ hx⟩) h
def Inv.call [Dr] (hI:Inv num N w0 m0 T β0 σ a w m β ν) {bs':Qd} {r:AV} {e:Ending} (h:VQ num β bs' r w m (Uj ν) e w'):
  ∃v m' β' ν',e= .returned v/\Inv num N w0 m0 T β0 {σ with bs:=bs'} a w' m' β' ν'/\Wo num β' w' m' ν' .f (fun i=> .fc i) r v:=by
 obtain⟨v,m',β',ν1,he,hge,hS,⟨hb1,hb2⟩,hok,hr,hown,hlt⟩:=h;have hk: ∀b p,ν1 b=some p->TH ν ν1 b=some p:=fun b p hp=>by
  unfold TH;cases hν:ν b with
  | none=>exact hp
  | some q=>
   by_cases hg:q.isG=true
   ·simp only[hg,QF];exact hp
   ·exfalso;have h1:=(hI.lt b q hν).1;rcases(hlt b p hp).2.1 with h2 | ⟨q2,h2⟩
    ·omega
    ·obtain⟨h3,h4⟩:=Vn h2;rw[hν]at h3;injection h3 with h3
     subst h3;exact hg h4
 refine⟨v,m',β',TH ν ν1,he,?_,(QD hok).2 ⟨hr,?_⟩⟩
 ·refine hI.next hS (fun b hb hx=> ?_) hge (fun _=>False) (fun _=>True)
   (fun b t hb _=>⟨fun⟨p,hp⟩=> ?_,?_⟩) (fun b t i hb _=>⟨fun⟨p,hp⟩=> ?_,?_⟩) (fun _ _ _ h=>absurd trivial h) (fun _ _ _ _ h=>absurd trivial h)
   (fun b p hp=> ?_) (fun _ _=> .inl rfl) hI.out (fun _ _ h=>h.elim) hb1 (fun _ h=>absurd trivial h) (fun i cs b _ h1 h2 hne=>Ad (hb2 i cs b h1 h2 hne) hk)
  ·obtain⟨p,hp⟩:=hx;exact(hI.lt b p (Vn hp).1).2
  ·have:=Vn hp;rw[hb]at this;obtain⟨h1,h2⟩:=this;injection h1 with h1
   subst h1;cases h2
  ·unfold TH;rw[hb];rfl
  ·have:=Vn hp;rw[hb]at this;obtain⟨h1,h2⟩:=this;injection h1 with h1
   subst h1;cases h2
  ·unfold TH;rw[hb];rfl
  ·have hold: ∀q,ν b=some q->b < w'.heap.size/\(w0.heap.size<=b\/T b):=fun q hq=>by
    have h1:=hI.lt b q hq;have h2:=hS.size;exact⟨by omega,h1.2⟩
   unfold TH at hp;split at hp
   ·rename_i q hq;exact hold q hq
   ·rename_i hq;have h1:=hlt b p hp;refine⟨h1.1,.inl ?_⟩;rcases h1.2.1 with h2 | ⟨q2,h2⟩
    ·have h3:=hI.step.size;omega
    ·rw[(Vn h2).1]at hq;cases hq
 ·exact YV (θ:=id) (fun x hx=>⟨rfl,rfl,hk x _ hx⟩) hown
def Inv.glob [Dr] {Γ:Z1} (hI:Inv num N w0 m0 T β0 σ a w m β ν) (hG:Γ.G w0 m0) (hGb:Γ.Gb<=w0.heap.size) (hT: ∀b,T b->Γ.Gb<=b):Γ.G w m/\Γ.Gb<=w.heap.size/\∀b p,Uj ν b=some p->b < w.heap.size/\Γ.Gb<=b/\p.isG=true:=by
 refine⟨Γ.step T w0 m0 w m hI.step hT hGb hG,Vb hGb hI.step.size,fun b p hp=> ?_⟩;obtain⟨h1,h2⟩:=Vn hp;have h3:=hI.lt b p h1;refine⟨h3.1,?_,h2⟩;rcases h3.2 with h4 | h4
 ·omega
 ·exact hT b h4
def Inv.boxesOf [Dr] (hI:Inv num N w0 m0 T β0 σ a w m β ν):Tu num β w m (Uj ν) σ.bs:=
 ⟨hI.blen,fun i cs b h1 h2 hne=>YU (Ge.refl β) (Le.refl w m) (fun _ hx=>⟨rfl,rfl,Gz hx rfl⟩) (fun _ _ hx=>⟨rfl,rfl,Gz hx rfl⟩) (hI.boxes i cs b h1 h2 hne)⟩
def MY {g:Nat} {vs:QW} {fn:Func} (hf:P.funcs[g]? =some fn) (hn: (fn.name == "runtime.NumGoroutine")=false) (hb:fn.body.isNone=false):
  (callFunc g vs).run P w= .ok (.enter g vs) w:=by
 simp only[callFunc,Sem.run_bind,run_program,Result.andThen_ok,hf,hn,hb,Zo,QC,Sem.run_pure]
def MI [Dr] {g:Nat} {vs:QW} {bs':Qd} {r:AV} (hI:Inv num N w0 m0 T β0 σ a w m β ν) (hE:Xu P num) {f:Nat} (hf:num f=some g) (hrun: (execOp a.eval o).run P w=(callFunc g vs).run P w)
  (hc:Calls P g vs w (VQ num β bs' r w m (Uj ν))) (h:Aft num N w0 m0 T β0 {σ with bs:=bs'} a r fun u w'=>next (a.put o.dst u) w'):o.wp P a w next Q:=by
 obtain⟨fn,h1,h2,h3⟩:=hE f g hf;unfold Oper.wp;rw[hrun,MY h1 h2 h3];simp only[Oper.upon];refine hc.mono fun e w' he=> ?_;obtain⟨v,m',β',ν',rfl,hI',hs⟩:=hI.call he;exact h v w' m' β' ν' hI' hs
def IK {xs:Wp} {ys:UC} (h:Yf num xs ys=true):xs.length=ys.length:=by
 induction xs generalizing ys with
 | nil=>cases ys <;> simp[Yf]at h ⊢
 | cons x xs ih=>cases ys with
  | nil=>simp[Yf]at h
  | cons y ys=>simp only[Yf,Qi]at h;simp[ih h.2]
mutual
theorem Qhf: ∀(a b:AV),eqV a b=true->a=b:=by
 intro a b h;cases a <;> cases b <;> simp only[eqV,Qi,Qm,XL,Zo]at h <;> try rfl
 case int.int=>rw[h.1,h.2]
 case bool.bool=>rw[h]
 case str.str=>rw[h]
 case agg.agg=>rw[XG _ _ h]
 case sl.sl=>rw[h.1.1,h.1.2,SZ _ _ h.2]
 case bx.bx=>rw[XG _ _ h]
 case gp.gp=>rw[h.1,h.2]
 case gs.gs=>rw[h.1.1.1,h.1.1.2,h.1.2,h.2]
 case rptr.rptr=>rw[XG _ _ h]
 case fn.fn=>rw[h.1,XG _ _ h.2]
 case bf.bf=>rw[h.1,XG _ _ h.2]
 case tup.tup=>rw[XG _ _ h]
 case err.err=>rw[h]
 case mp.mp=>rw[h]
 case gb.gb=>rw[h.1.1,h.1.2,h.2]
 case gt.gt=>rw[h.1,h.2]
 case pv.pv=>rw[h.1,XG _ _ h.2]
 case otup.otup=>rw[h.1.1,SZ _ _ h.1.2,XG _ _ h.2]
theorem XG: ∀(a b:List AV),WT a b=true->a=b
 | [],[],_=>rfl
 | x:: xs,y:: ys,h=>by
  simp only[WT,Qi]at h;rw[Qhf x y h.1,XG xs ys h.2]
 | [],_:: _,h=>by simp[WT]at h
 | _:: _,[],h=>by simp[WT]at h
theorem SZ: ∀(a b:List (List AV)),T6 a b=true->a=b
 | [],[],_=>rfl
 | x:: xs,y:: ys,h=>by
  simp only[T6,Qi]at h;rw[XG x y h.1,SZ xs ys h.2]
 | [],_:: _,h=>by simp[T6]at h
 | _:: _,[],h=>by simp[T6]at h
end
mutual
theorem AG: ∀a:AV,eqV a a=true:=by
 intro a;cases a <;> simp[eqV]
 case agg cs=>exact Z5 cs
 case sl o z xs=>exact Sm xs
 case bx cs=>exact Z5 cs
 case rptr cs=>exact Z5 cs
 case fn f cs=>exact Z5 cs
 case bf f cs=>exact Z5 cs
 case tup vs=>exact Z5 vs
 case pv z cs=>exact Z5 cs
 case otup z xs vs=>exact⟨Sm xs,Z5 vs⟩
theorem Z5: ∀l:List AV,WT l l=true
 | []=>rfl
 | x:: xs=>by simp[WT,AG x,Z5 xs]
theorem Sm: ∀l:List (List AV),T6 l l=true
 | []=>rfl
 | x:: xs=>by simp[T6,Z5 x,Sm xs]
end
def Qhw [Dr] {Γ:Z1} {k g:Nat} {t:TypeId} (hI:Inv num N w0 m0 T β0 σ a w m β ν) (hK:KOk P num Γ K) (hG:Γ.G w0 m0) (hGb:Γ.Gb<=w0.heap.size) (hT: ∀b,T b->Γ.Gb<=b)
  (ho:o.op= .load t (.global g)) (hg:P.globalNamed (PV k)=some g) (ha:YX P t false=true)
  (he:Qg K (.lgb k) σ=some (v,σ1)) (h:Aft num N w0 m0 T β0 σ1 a v fun u w'=>next (a.put o.dst u) w'):o.wp P a w next Q:=by
 simp only[Qg]at he;split at he
 ·rename_i hc;injection he with he
  injection he with h1 h2
  subst h1 h2;obtain⟨g1,_,_⟩:=hI.glob hG hGb hT;obtain⟨u,c1,c2,c3⟩:=Γ.tab w m k g num g1 (hK.1 k g hg);have c4:Qa num β w m (SE k) u:=QU (fun i b h=>by simp at h) (Le.refl w m) _ u c3;refine Qj (u:=u) (w':=w) ?_ (h.same hI (by rw[VG hc.1]) c4 (H2 hc.2 _ _ _ _ _));have hq:a.eval (.global g)= .pointer (some ⟨g,0,none⟩):=rfl;simp only[execOp,ho,Instr.loadAt,hq,Instr.sureAddr,Sem.run_bind,Sem.run_pure,Result.andThen_ok,loadVar,Z6 ha,Zo,QC,run_load,c1]
 ·cases he
def Gx [Dr] {Γ:Z1} {f g:Nat} {args:Wp} {ys:UC} {ts:Array TypeId} (hI:Inv num N w0 m0 T β0 σ a w m β ν) (hE:Xu P num) (hK:KOk P num Γ K) (hG:Γ.G w0 m0) (hGb:Γ.Gb<=w0.heap.size) (hT: ∀b,T b->Γ.Gb<=b)
  (ho:o.op= .call {callee:= .value (.func g),args:=ys.toArray,argTypes:=ts}) (hf:num f=some g) (hx:Yf num args ys=true)
  (he:Qg K (.call f args) σ=some (v,σ1)) (h:Aft num N w0 m0 T β0 σ1 a v fun u w'=>next (a.put o.dst u) w'):o.wp P a w next Q:=by
 simp only[Qg]at he;split at he
 ·rename_i hok;cases hk:K f (args.map (val σ.env)) σ.bs with
  | none=>rw[hk]at he;cases he
  | some rb=>
   obtain⟨r,bs'⟩:=rb;rw[hk]at he;injection he with he
   injection he with h1 h2
   subst h1 h2;obtain⟨hl,hv⟩:=hI.vals hx hok;obtain⟨g1,g2,g3⟩:=hI.glob hG hGb hT;refine MI hI hE hf (vs:=ys.toArray.map a.eval) ?_ (hK.2 f g _ _ _ _ hf hk hok w m β (Uj ν) (ys.toArray.map a.eval) g1 g2 (by simp[hl]) (fun i c hc=> ?_) hI.boxesOf g3) h
   ·simp[execOp,ho,resolve,Deferred.ofValue,invoke,Act.eval]
   ·obtain⟨y,k1,k2,k3⟩:=hv i c hc;exact⟨a.eval y,by simp[k1],k3⟩
 ·cases he
def AL [Dr] {Γ:Z1} {f g:Nat} {args:Wp} {ys:UC} {ts:Array TypeId} (hI:Inv num N w0 m0 T β0 σ a w m β ν) (hE:Xu P num) (hK:KOk P num Γ K) (hG:Γ.G w0 m0) (hGb:Γ.Gb<=w0.heap.size) (hT: ∀b,T b->Γ.Gb<=b)
  (ho:o.op= .call {callee:= .value (.func g),args:=ys.toArray,argTypes:=ts}) (hf:num f=some g) (hx:Yf num args ys=true)
  (he:Qg K (.callq f args) σ=some (v,σ1)) (h:Aft num N w0 m0 T β0 σ1 a v fun u w'=>next (a.put o.dst u) w'):o.wp P a w next Q:=by
 refine Gx hI hE hK hG hGb hT ho hf hx ?_ h;simp only[Qg]at he ⊢;split at he
 ·rename_i hok;rw[Qh hok];cases hk:K f (args.map (val σ.env)) σ.bs with
  | none=>rw[hk]at he;cases he
  | some rb=>
   obtain⟨r,bs'⟩:=rb;rw[hk]at he;simp only[Qt]at he;split at he
   ·rename_i hb;have hb2:=SZ _ _ hb;injection he with he
    injection he with h1 h2
    subst h1 h2;subst hb2;rfl
   ·cases he
 ·cases he
def W0:=@List.all_append
def RJ {xs ys:Qf} (h:Yw (xs ++ ys)=true):Yw xs=true/\Yw ys=true:=by
 unfold Yw at h ⊢;rw[W0,Qi]at h;exact h
def AM [Dr] {Γ:Z1} {x:AO} {x':Operand} {args:Wp} {ys:UC} {ts:Array TypeId} (hI:Inv num N w0 m0 T β0 σ a w m β ν) (hE:Xu P num) (hK:KOk P num Γ K) (hG:Γ.G w0 m0) (hGb:Γ.Gb<=w0.heap.size) (hT: ∀b,T b->Γ.Gb<=b)
  (ho:o.op= .call {callee:= .value x',args:=ys.toArray,argTypes:=ts}) (hxx:okO num x x'=true) (hx:Yf num args ys=true)
  (he:Qg K (.callv x args) σ=some (v,σ1)) (h:Aft num N w0 m0 T β0 σ1 a v fun u w'=>next (a.put o.dst u) w'):o.wp P a w next Q:=by
 simp only[Qg]at he;split at he
 ·rename_i f caps hfv;split at he
  ·rename_i hok;cases hk:K f (args.map (val σ.env)++ caps) σ.bs with
   | none=>rw[hk]at he;cases he
   | some rb=>
    obtain⟨r,bs'⟩:=rb;rw[hk]at he;injection he with he
    injection he with h1 h2
    subst h1 h2;have hr:=(hI.val hxx (by rw[hfv];rfl)).1;rw[hfv]at hr;simp only[Qa]at hr;obtain⟨g,us,hf,hr1,hr2,hr3⟩:=hr;rw[Zp]at hr3;obtain⟨hl,hv⟩:=hI.vals hx (RJ hok).1;obtain⟨g1,g2,g3⟩:=hI.glob hG hGb hT;refine MI hI hE hf (vs:=ys.toArray.map a.eval ++ us) ?_ (hK.2 f g _ _ _ _ hf hk hok w m β (Uj ν) (ys.toArray.map a.eval ++ us) g1 g2 (by simp[hl,hr2]) (fun i c hc=> ?_) hI.boxesOf g3) h
    ·simp[execOp,ho,resolve,Deferred.ofValue,invoke,hr1]
    ·by_cases hi:i < (args.map (val σ.env)).length
     ·rw[ZO hi]at hc;obtain⟨y,k1,k2,k3⟩:=hv i c hc;have hi2:i < ys.length:=by rw[<- IK hx];simpa using hi
      exact⟨a.eval y,by rw[Vj (by simpa using hi2)];simp[k1],k3⟩
     ·rw[Yn (by omega)]at hc;obtain⟨u,k1,k2,k3⟩:=hr3 _ c hc;refine⟨u,?_,k3⟩;have hle: (args.map (val σ.env)).length=ys.length:=by rw[Wa,IK hx]
      rw[hle]at k1 hi;rw[OZ (by simpa using hi)];simpa using k1
  ·cases he
 ·rename_i f caps hfv;split at he
  ·rename_i hok;cases hk:K f (caps ++ args.map (val σ.env)) σ.bs with
   | none=>rw[hk]at he;cases he
   | some rb=>
    obtain⟨r,bs'⟩:=rb;rw[hk]at he;injection he with he
    injection he with h1 h2
    subst h1 h2;have hr:=(hI.val hxx (by rw[hfv];rfl)).1;rw[hfv]at hr;simp only[Qa]at hr;obtain⟨g,us,hf,hr1,hr2,hr3⟩:=hr;rw[Zp]at hr3;obtain⟨hl,hv⟩:=hI.vals hx (RJ hok).2;obtain⟨g1,g2,g3⟩:=hI.glob hG hGb hT;refine MI hI hE hf (vs:=us ++ ys.toArray.map a.eval) ?_ (hK.2 f g _ _ _ _ hf hk hok w m β (Uj ν) (us ++ ys.toArray.map a.eval) g1 g2 (by simp[hl,hr2]) (fun i c hc=> ?_) hI.boxesOf g3) h
    ·simp[execOp,ho,resolve,Deferred.ofValue,invoke,hr1]
    ·by_cases hi:i < caps.length
     ·rw[ZO hi]at hc;obtain⟨u,k1,k2,k3⟩:=hr3 _ c hc;refine⟨u,?_,k3⟩;rw[QP]at k1;rw[Vj (by rw[hr2];exact hi)];exact k1
     ·rw[Yn (by omega)]at hc;obtain⟨y,k1,k2,k3⟩:=hv _ c hc;refine⟨a.eval y,?_,k3⟩;rw[OZ (by rw[hr2];omega),hr2];simp[k1]
  ·cases he
 ·cases he
end
end Go.Am
