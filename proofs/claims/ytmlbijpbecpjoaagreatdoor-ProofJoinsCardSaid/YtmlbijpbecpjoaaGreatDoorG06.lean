/-
  AmA, Am11.
-/
import Derived.Test.YtmlbijpbecpjoaaGreatDoorG05
set_option linter.all false
namespace Go.Am
section
variable {P:Program} {num:Nat->Option Nat} {β:List Blk} {w w':World} {m:Nat->Nat} {ν:Own} {N:Nat} {w0:World} {m0:Nat->Nat} {T:Nat->Prop} {β0:List Blk} {σ σ1:St} {a:Act}
 {o:Oper} {next:Act->World->Prop} {Q:Exit->Act->World->Prop} {K:Yo} {v:AV}
structure Qpu (num:Nat->Option Nat) (β:List Blk) (w:World) (m:Nat->Nat) (b2 of2 len:Nat) (ys:List AV) (news:List Value):Prop where
 nl:news.length=len
 at_: ∀j u,news[j]? =some u->w.cell? ⟨b2,of2+j,none⟩=some u
 one: ∀u∈news,u.oneCell'=true
 yl:ys.length=len
 rep: ∀(j:Nat) (c:AV),ys[j]? =some c->∃u,news[j]? =some u/\u.oneCell'=true/\Qd num β w m c u/\∀p w' m' ν',Zz w' m' ν' p c u
def DO [Dr] (hI:Inv num N w0 m0 T β0 σ a w m β ν) {sz n:Nat} {x:AV} {ys:Qh} {Y:Value} (hsz:0 < sz) (hs:Wt sz x σ.bs=some (n,ys)) (hr:Qd num β w m x Y):
  ∃A cap2,Y= .slice A n cap2/\(0 < n->∃b2 of2 news,A=some ⟨b2,of2,none⟩/\Qpu num β w m b2 of2 (n*sz) ys news):=by
 unfold Wt at hs;split at hs
 ·rename_i ow sz2 xs;split at hs
  ·rename_i he;subst he;simp only[QD,QV]at hs;obtain⟨rfl,rfl⟩:=hs;simp only[Qd]at hr;obtain⟨A,len,cap,rfl,h2,h3,h4,h5⟩:=hr;subst h2;refine⟨A,cap,rfl,fun hn=> ?_⟩;rcases h5 with h5 | ⟨b2,of2,rfl,h5⟩
   ·rw[h5]at hn;simp at hn
   have hcells:=Se h5 hsz;obtain⟨news,hnews⟩: ∃news:ZE,news=(List.range (xs.length*sz2)).map fun j=>(w.cell? ⟨b2,of2+j,none⟩).getD undef:=⟨_,rfl⟩;have hnl:news.length=xs.length*sz2:=by simp[hnews]
   have hget: ∀j,j < xs.length*sz2->∃u,news[j]? =some u/\w.cell? ⟨b2,of2+j,none⟩=some u/\hg w m b2 (of2+j)=some u/\u.oneCell'=true:=fun j hj=>by
    obtain⟨u,g1,g2⟩:=hcells j hj;have:=(Wz g1).2.1;exact⟨u,by simp[hnews,hj,this],this,g1,g2⟩
   have hlt: ∀{j:Nat} {u:Value},news[j]? =some u->j < xs.length*sz2:=fun {j u} hj=>by
    rcases QR j news.length with h | h
    ·omega
    ·rw[Q3 h]at hj;cases hj
   have hfl:=V1 h5;refine⟨b2,of2,news,rfl,hnl,fun j u hj=> ?_,fun u hu=> ?_,hfl,fun j c hc=> ?_⟩
   ·obtain⟨u2,p1,p2,_⟩:=hget j (hlt hj);rw[hj]at p1;injection p1 with p1
    subst p1;exact p2
   ·obtain⟨j,hj⟩:=Sk hu;obtain⟨u2,p1,_,_,p2⟩:=hget j (hlt hj);rw[hj]at p1;injection p1 with p1
    subst p1;exact p2
   ·obtain⟨u,q1,q2,q3⟩:=Rk h5 j c hc;have hj:j < xs.length*sz2:=by
     rw[<- hfl];rcases QR j (xs.flatten.map AV.strip).length with h | h
     ·exact h
     ·rw[Q3 h]at hc;cases hc
    obtain⟨u2,p1,_,p3,_⟩:=hget j hj;rw[q1]at p3;injection p3 with p3
    subst p3;exact⟨u,p1,q2,q3⟩
  ·cases hs
 ·rename_i id of sz2 k;simp only[Qd]at hr;obtain⟨A,cap,rfl,h3,h4,h5⟩:=hr;split at hs
  ·rename_i hk;split at hs
   ·simp only[QD,QV]at hs;obtain⟨rfl,rfl⟩:=hs;subst hk;exact⟨A,cap,rfl,fun h=>by omega⟩
   ·cases hs
  ·rename_i hk;split at hs
   ·rename_i he;subst he;cases hbs:σ.bs[id]? with
    | none=>rw[hbs]at hs;cases hs
    | some cs=>
     rw[hbs]at hs;simp only[QC]at hs;split at hs
     ·rename_i hl;simp only[QD,QV]at hs;obtain⟨rfl,rfl⟩:=hs;refine⟨A,cap,rfl,fun hn=> ?_⟩;rcases h5 with h5 | ⟨kb,h5,rfl,h6,_⟩
      ·exact absurd h5.1 hk
      have hkm:0 < k*sz2:=Si hn hsz;have hne:cs≠[]:=fun e=>by rw[e]at hl;simp only[Yz]at hl;omega
      obtain⟨cur,e,p1,p2,p3,p4,p5⟩:=(hI.boxes id cs kb hbs h5.1 hne).1 h5.2;have hcs:of+k*sz2<=cur.size:=by omega
      obtain⟨news,hnews⟩: ∃news:ZE,news=(cur.toList.drop of).take (k*sz2):=⟨_,rfl⟩;have hnl:news.length=k*sz2:=by simp[hnews];omega
      have hget: ∀{j:Nat} {u:Value},news[j]? =some u->j < k*sz2/\cur[of+j]? =some u:=fun {j u} hj=>by
       rw[hnews,VJ]at hj;split at hj
       ·rename_i h;rw[XJ]at hj;exact⟨h,by simpa using hj⟩
       ·cases hj
      have hput: ∀{j:Nat} {u:Value},j < k*sz2->cur[of+j]? =some u->news[j]? =some u:=fun {j u} hj hu=>by
       rw[hnews,WB hj,XJ];simpa using hu
      have hrow: ∀{j:Nat},j < k*sz2->∃c u,cs[of+j]? =some c/\cur[of+j]? =some u/\u.oneCell'=true/\Qd num β w m c u:=fun {j} hj=>by
       have:of+j < cs.length:=by omega
       obtain⟨u,r1,r2,r3,_⟩:=p5 _ _ (Zv this);exact⟨_,u,Zv this,r1,r2,r3⟩
      refine⟨kb.b,of,news,rfl,hnl,fun j u hj=> ?_,fun u hu=> ?_,by simp;omega,fun j c hc=> ?_⟩
      ·rw[cell_of_row w kb.b _ cur e (0,0) p1];exact(hget hj).2
      ·obtain⟨j,hj⟩:=Sk hu;obtain⟨h1,h2⟩:=hget hj;obtain⟨_,u2,_,r2,r3,_⟩:=hrow h1;rw[h2]at r2;injection r2 with r2
       subst r2;exact r3
      ·obtain⟨d,hd,rfl⟩:=Zn hc;rw[VJ]at hd;split at hd
       ·rename_i hj;rw[XJ]at hd;obtain⟨d2,u,r1,r2,r3,r4⟩:=hrow hj;rw[hd]at r1;injection r1 with r1
        subst r1;exact⟨u,hput hj r2,r3,by rw[QU];exact r4,fun p w' m' ν'=>Yp _ _ _⟩
       ·cases hd
     ·cases hs
   ·cases hs
 ·cases hs
def QgG {n:Int} (h1: -9223372036854775808<=n) (h2:n < 9223372036854775808):IntKind.i64.wrap n=n:=by
 simp only[IntKind.wrap_i64];omega
def Qef (zs:Ze) (n:Nat): (Builtin.zeroCells zs n).toList.length=n*zs.size:=by simp[Builtin.zeroCells]
def HD {t ti ty e:TypeId} {i:TypeInfo} {base:UG} {k cap:Nat} (ht:P.underlying t=some (.slice e)) (hu:P.underlying ti=some (.int .i64)) (hi:P.info? e=some i) (hk:k<=cap):
  (Builtin.append_ #[t,ti] ty #[.slice base k cap,.int .i64 0]).run P w= .ok (.slice base k cap) w:=by
 have h0:IntKind.i64.wrap 0=0:=rfl;cases base <;> simp[Builtin.append_,run_underlying ht,run_underlying hu,sizeOf,typeInfo,hi,asInt,asIntOf,h0,hk,storeCells]
def W8:=@List.mem_map
def Cx {t ti ty e e2:TypeId} {i:TypeInfo} {z:Value} {g sLen sCap k:Nat} {cur:Ze} (ht:P.underlying t=some (.slice e)) (hu:P.underlying ti=some (.int .i64)) (hi:P.info? e=some i) (hz:i.zero=some z)
  (hzs:z.cells.size=i.size) (hg:w.heap[g]? =some (.cells cur e2 (0,0))) (h1: ∀u∈z.cells,u.oneCell'=true) (hp:0 < k*i.size) (h63: (k:Int)<=9223372036854775807) (hb:k*i.bytes<=281474976710656)
  (hroom:sLen+k<=sCap) (hfit:sLen*i.size+k*i.size<=cur.size):
  (Builtin.append_ #[t,ti] ty #[.slice (some ⟨g,0,none⟩) sLen sCap,.int .i64 k]).run P w=
   .ok (.slice (some ⟨g,0,none⟩) (sLen+k) sCap) (w.setRow g (cur.toList.take (sLen*i.size)++ (Builtin.zeroCells z.cells k).toList ++ cur.toList.drop (sLen*i.size+ (Builtin.zeroCells z.cells k).toList.length)).toArray):=by
 have hl:=Qef z.cells k;rw[hzs]at hl;have ho: ∀u∈(Builtin.zeroCells z.cells k).toList,u.oneCell'=true:=fun u hu=>by
  simp only[Builtin.zeroCells,Array.toList_map,W8]at hu;obtain⟨j,_,rfl⟩:=hu;have hpos:0 < z.cells.size:=by
   rcases KT z.cells.size with h | h
   ·rw[hzs]at h;rw[h]at hp;simp at hp
   ·exact h
  have hm:=Ps j hpos;rw[Vl z.cells (j % z.cells.size) hm];exact h1 _ (Array.getElem_mem hm)
 have hst:=run_storeCells_at P g (sLen*i.size) e2 (Builtin.zeroCells z.cells k).toList 0 cur w hg (by rw[hl];simpa using hfit) ho;simp only[Ty]at hst;have hw:IntKind.i64.wrap (k:Int)=(k:Int):=QgG (by omega) (by omega);have hk0: ¬(k*i.size=0):=by omega
 have hneg: ¬((k:Int) < 0):=by omega
 have hbb: ¬((281474976710656:Int) < (k:Int)* (i.bytes:Int)):=by
  have: ((k*i.bytes:Nat):Int)<=281474976710656:=by omega
  rw[Mr]at this;omega
 simp[Builtin.append_,run_underlying ht,run_underlying hu,sizeOf,typeInfo,zeroValue,hi,hz,asInt,asIntOf,hw,hneg,hbb,hroom,hk0,Ym,hst]
def N0 {t ti ty e:TypeId} {i:TypeInfo} {z:Value} (ht:P.underlying t=some (.slice e)) (hu:P.underlying ti=some (.int .i64)) (hi:P.info? e=some i) (hz:i.zero=some z)
  {base:UG} {sLen sCap k:Nat} {olds:ZE} (hlo:olds.length=sLen*i.size) (holds: (Builtin.firstCells i.size sLen (.slice base sLen sCap)).run P w.drew= .ok olds.toArray w.drew) (hp:0 < k*i.size)
  (hg:sCap < sLen+k) (h63: ((sLen+k:Nat):Int)<=9223372036854775807) (hb:k*i.bytes<=281474976710656) (hfit:Builtin.nextslicecap (sLen+k) sCap*i.bytes<=281474976710656):
  (Builtin.append_ #[t,ti] ty #[.slice base sLen sCap,.int .i64 k]).run P w=
   .ok (.slice (some ⟨w.heap.size,0,none⟩) (sLen+k) (grownCap w (sLen+k) sCap e))
    (w.drew.alloc (.cells (olds.toArray ++ (Builtin.zeroCells z.cells k).toList.toArray ++ Builtin.zeroCells z.cells (grownCap w (sLen+k) sCap e - (sLen+k))) e)):=by
 have hn: ¬(sLen+k<=sCap):=by omega
 have h63': ¬(9223372036854775807 < ((sLen:Int)+ (k:Int))):=by omega
 have h48': ¬(281474976710656 < Builtin.nextslicecap (sLen+k) sCap*i.bytes):=by omega
 have hw:IntKind.i64.wrap (k:Int)=(k:Int):=QgG (by omega) (by omega);have hk0: ¬(k*i.size=0):=by omega
 have hneg: ¬((k:Int) < 0):=by omega
 have hbb: ¬((281474976710656:Int) < (k:Int)* (i.bytes:Int)):=by
  have: ((k*i.bytes:Nat):Int)<=281474976710656:=by omega
  rw[Mr]at this;omega
 simp[Builtin.append_,run_underlying ht,run_underlying hu,sizeOf,typeInfo,zeroValue,hi,hz,asInt,asIntOf,hw,hneg,hbb,hn,h63',h48',hk0,Question.forced,holds,newRow,grownCap]
def TyA (β:Xv) (e:TypeId):AV->Prop
 | .gs id _ sz k=>(sz=0/\k=0)\/∃kb:Blk,β[id]? =some kb/\kb.ty=e
 | _=>True
def YE:=@List.eq_nil_of_length_eq_zero
def Mp:=@List.length_set
set_option maxHeartbeats 1000000 in
def O8 [Dr] {bytes n id o1 sz1 k:Nat} {s':Operand} {e:TypeId} {i:TypeInfo} {z:Value} {ys:Qh} {news:ZE} {ap:Value->Sem Value} {v2:AV} {bs2:Qa}
  (hI:Inv num N w0 m0 T β0 σ a w m β ν) (hr:Qd num β w m (.gs id o1 sz1 k) (a.eval s')) (hby:0 < i.bytes) (hbe:i.bytes=bytes) (hsz:0 < i.size) (hz:z.cells.size=i.size) (hm:Pu bytes i.size (.gs id o1 sz1 k) (n,ys) σ.bs=some (v2,bs2))
  (hnl:news.length=n*i.size) (hone: ∀u∈news,u.oneCell'=true)
  (hN:0 < n->ys.length=n*i.size/\∀(j:Nat) (c:AV),ys[j]? =some c->∃u,news[j]? =some u/\u.oneCell'=true/\Qd num β w m c u/\∀p w' m' ν',Zz w' m' ν' p c u)
  (hexec: ∀A k cap,a.eval s'= .slice A k cap->∀r w',(ap (.slice A k cap)).run P w= .ok r w'->(execOp a.eval o).run P w= .ok (.value r) w')
  (q0:n=0->∀A k cap,k<=cap->(ap (.slice A k cap)).run P w= .ok (.slice A k cap) w)
  (q1:0 < n->∀A,(n:Int)<=9223372036854775807->n*i.bytes<=281474976710656->(ap (.slice A 0 0)).run P w= .ok (.slice (some ⟨w.heap.size,0,none⟩) n (grownCap w n 0 e)) (w.drew.alloc (.cells (news.toArray ++ Builtin.zeroCells z.cells (grownCap w n 0 e - n)) e)))
  (q2:0 < n->∀g cur e2 sLen sCap,w.heap[g]? =some (.cells cur e2 (0,0))->sLen+n<=sCap->sLen*i.size+news.length<=cur.size->(n:Int)<=9223372036854775807->n*i.bytes<=281474976710656->
   (ap (.slice (some ⟨g,0,none⟩) sLen sCap)).run P w= .ok (.slice (some ⟨g,0,none⟩) (sLen+n) sCap) (w.setRow g (cur.toList.take (sLen*i.size)++ news ++ cur.toList.drop (sLen*i.size+news.length)).toArray))
  (q3:0 < n->∀(b:Addr) sLen sCap (olds:ZE),olds.length=sLen*i.size->(∀j v,olds[j]? =some v->w.cell? (b.add j)=some v)->sCap < sLen+n->((sLen+n:Nat):Int)<=9223372036854775807->n*i.bytes<=281474976710656->Builtin.nextslicecap (sLen+n) sCap*i.bytes<=281474976710656->
   (ap (.slice (some b) sLen sCap)).run P w= .ok (.slice (some ⟨w.heap.size,0,none⟩) (sLen+n) (grownCap w (sLen+n) sCap e))
    (w.drew.alloc (.cells (olds.toArray ++ news.toArray ++ Builtin.zeroCells z.cells (grownCap w (sLen+n) sCap e - (sLen+n))) e)))
  (h: ∀(u:Value) (w':World) (m':ZF) (β':Xv) (ν':Own),Inv num N w0 m0 T β0 {σ with bs:=bs2} a w' m' β' ν'->Uf num β' w' m' ν' .f (fun i=> .fc i) v2 u->(TyA β e (.gs id o1 sz1 k)->TyA β' e v2)->next (a.put o.dst u) w'):o.wp P a w next Q:=by
 subst hbe;unfold Pu at hm
 ·simp only at hm;split at hm
  ·rename_i hcond;obtain⟨_,hb⟩:=hcond;have hr0:=hr;simp only[Qd]at hr;obtain⟨A,cap,hu,g3,g4,g5⟩:=hr;have hexec:=hexec _ _ _ hu;have hsmall:k+n<=140737488355328:=Uu (Oz _ hby) hb;have hb2:n*i.bytes<=281474976710656:=by
    have:n*i.bytes<=(k+n)*i.bytes:=Z5 _ (by omega);omega
   by_cases hn0:n=0
   ·rw[Qn hn0]at hm;subst hn0;simp only[QD,QV]at hm;obtain⟨rfl,rfl⟩:=hm;refine Qr (hexec _ _ (q0 rfl _ _ _ g3)) (h _ w m β ν hI ((QT rfl).2 ⟨?_,trivial⟩) fun t=>t);rw[hu]at hr0;exact hr0
   rw[Qm hn0]at hm;have hn:0 < n:=Mk hn0;obtain⟨hyl,hbox⟩:=hN hn;have fresh: ∀(σ2:St) (ν2:Own) (olds:ZE) (co:Qh) (kk capN:Nat),Inv num N w0 m0 T β0 σ2 a w m β ν2->olds.length=kk*i.size->co.length=kk*i.size->
     (∀(j:Nat) (c:AV),co[j]? =some c->∃u,olds[j]? =some u/\u.oneCell'=true/\Qd num β w m c u/\∀p w' m' ν',Zz w' m' ν' p c u)->kk+n<=capN->capN<=maxLen->
     (∀(u:Value) (w':World) (m':ZF) (β':Xv) (ν':Own),Inv num N w0 m0 T β0 {σ2 with bs:=σ2.bs ++ [co ++ ys]} a w' m' β' ν'->Uf num β' w' m' ν' .f (fun i=> .fc i) (.gs σ2.bs.length 0 i.size (kk+n)) u->(∃kb,β'[σ2.bs.length]? =some kb/\kb.ty=e)->next (a.put o.dst u) w')->
     next (a.put o.dst (.slice (some ⟨w.heap.size,0,none⟩) (kk+n) capN)) (w.drew.alloc (.cells (olds.toArray ++ news.toArray ++ Builtin.zeroCells z.cells (capN - (kk+n))) e)):=by
    intro σ2 ν2 olds co kk capN hI0 hol hcl hco hc1 hc2 hh;obtain⟨rows,hrows⟩: ∃rows:Ze,rows=olds.toArray ++ news.toArray ++ Builtin.zeroCells z.cells (capN - (kk+n)):=⟨_,rfl⟩;rw[<- hrows];have hrsz:rows.size=capN*i.size:=by
     rw[hrows];simp only[Rm,WD,size_zeroCells,hz,hnl,hol];rw[<- ZT,<- ZT];congr 1;omega
    have hI2:=(hI0.drew).fresh rows e 0 .f;have hle:Le w m (w.drew.alloc (.cells rows e)) (m1 m w.drew.heap.size 0):=(ZO.alloc (fun _=>False) w.drew m rows e 0).le;have hI3:=hI2.toBox (b:=w.heap.size) (cur:=rows) (e:=e) (cs:=co ++ ys) (heap_alloc_new w.drew _) (by simp[Yb]) (by simp[m1]) (by
      rw[Zo,hcl,hyl,hrsz,<- ZT];exact Z5 _ hc1)
     fun i0 c hc=>by
      by_cases hi0:i0 < co.length
      ·rw[ZM hi0]at hc;obtain⟨u,q1,q2,q3,q4⟩:=hco i0 c hc;refine⟨u,?_,q2,Zc (Ge.refl β) hle c u q3,q4⟩;rw[hrows,FM,U7 (by simp;omega)];simpa using q1
      ·rw[YS (by omega)]at hc;obtain⟨u,q1,q2,q3,q4⟩:=hbox _ c hc;refine⟨u,?_,q2,Zc (Ge.refl β) hle c u q3,q4⟩;have hlt:i0 - co.length < news.length:=by
        rcases QR (i0 - co.length) news.length with h | h
        ·exact h
        ·rw[Q3 h]at q1;cases q1
       rw[hrows,U7 (by simp;omega),KE (by simp;omega)];rw[show i0 - olds.toArray.size=i0 - co.length by simp;omega];simpa using q1
    refine hh _ _ _ _ _ hI3 ((QT rfl).2 ⟨?_,trivial⟩) ⟨_,by rw[<- hI0.blen];exact YZ,rfl⟩;simp only[Qd];exact⟨_,capN,rfl,hc1,hc2,.inr ⟨⟨w.heap.size,rows.size,false,e⟩,⟨by rw[<- hI0.blen];simp,rfl⟩,rfl,by simp[hrsz],hsz⟩⟩
   by_cases hz0:sz1=0/\k=0
   ·rw[Qn hz0]at hm;obtain⟨rfl,rfl⟩:=hz0;simp only[QD,QV]at hm;obtain⟨rfl,rfl⟩:=hm;have hcap:cap=0:=by
     rcases g5 with g5 | ⟨_,_,_,_,h5⟩
     ·exact g5.2.1
     ·omega
    subst hcap;have hrun:=q1 hn A (by omega) hb2;have hf:=fresh σ ν [] [] 0 (grownCap w n 0 e) hI (by simp) (by simp) (fun j c hj=>by simp at hj) (by rw[Zk];exact grownCap_ge w n 0 e)
     (grownCap_le_maxLen w n 0 e (by unfold maxLen;omega)) (fun u w' m' β' ν' i1 i2 i3=>h u w' m' β' ν' (by simpa using i1) (by simpa using i2) fun _=> .inr (by simpa using i3))
    simp only[Zk,FN]at hf;exact Qr (hexec _ _ hrun) hf
   ·rw[Qm hz0]at hm;split at hm
    ·rename_i hzz1;obtain⟨rfl,rfl⟩:=hzz1;cases hbs:σ.bs[id]? with
     | none=>rw[hbs]at hm;cases hm
     | some cs=>
      rw[hbs]at hm;simp only[QC]at hm;split at hm
      ·rename_i hcc;obtain⟨hne,hcl⟩:=hcc;have htied: ∃kb:Blk,(β[id]? =some kb/\kb.mp=false)/\A=some ⟨kb.b,0,none⟩/\cap*i.size=kb.z:=by
        rcases g5 with⟨q1,q2,q3⟩ | ⟨kb,q1,q2,q3,_⟩
        ·rcases q3 with q3 | ⟨kb,q3,q4⟩
         ·omega
         ·exfalso;obtain⟨cur,e2,p1,p2,_⟩:=(hI.boxes id cs kb hbs q3.1 hne).1 q3.2;have:cs.length=0:=by omega
          exact hne (YE this)
        ·exact⟨kb,q1,q2,by omega⟩
       obtain⟨kb,hkb,rfl,hcz⟩:=htied;by_cases hin: (k+n)*i.size<=cs.length
       ·-- in place
        rw[Qn hin]at hm;simp only[QD,QV]at hm;obtain⟨rfl,rfl⟩:=hm;obtain⟨cur,e2,hbk,⟨hzc,hzl⟩,hcur,hfin⟩:=hI.setG (cs':=put cs (k*i.size) ys) id hbs hkb hne;have hroom:k+n<=cap:=by
         have: (k+n)*i.size<=cap*i.size:=by omega
         exact Nat.le_of_mul_le_mul_right this hsz
        have hkn: (k+n)*i.size=k*i.size+n*i.size:=ZT _ _ _;have hrun:=q2 hn _ _ _ _ _ hbk hroom (by omega) (by omega) hb2;have hpl:k*i.size+ys.length<=cs.length:=by omega
        have hrow:=T6 (cs:=cs) (vs:=ys) (cur:=cur) (us:=news) (by omega) hpl (by omega)
         (R:=fun j c u=>u.oneCell'=true/\Qd num β w m c u/\Zz w m ν (.gc id j) c u) (S:=fun _ c u=>u.oneCell'=true/\Qd num β w m c u/\∀p w' m' ν',Zz w' m' ν' p c u) hcur hbox
        refine Qr (hexec _ _ hrun) (h _ _ m β _ (hfin (fun p=>p) _ (fun _=>rfl) (fun _ _=>rfl) (fun _=>rfl) (fun _ _=>rfl) ?_ ?_ ?_) ((QT rfl).2 ⟨?_,trivial⟩) fun t=> .inr (t.resolve_left fun q=>by omega))
        ·exact hrow.1.trans hzc
        ·rw[Sz _ _ _ hpl];exact hzl
        ·intro j c hj;obtain⟨u,q1,q2⟩:=hrow.2 j c hj;refine⟨u,q1,?_⟩;have hneν:ν kb.b≠some (.gc id j):=by
          obtain⟨_,_,_,_,_,hν,_⟩:=(hI.boxes id cs _ hbs hkb.1 hne).1 hkb.2;rw[hν];simp
         rcases q2 with⟨k1,k3,k4⟩ | ⟨_,_,k1,k3,k4⟩
         ·exact⟨k1,k3,_,k4,rfl,hneν⟩
         ·exact⟨k1,k3,.gc id j,k4 _ _ _ _,rfl,hneν⟩
        ·simp only[Qd];exact⟨_,cap,rfl,hroom,g4,.inr ⟨kb,hkb,rfl,by omega,hsz⟩⟩
       ·rw[Qm hin]at hm;simp only[QD,QV]at hm;obtain⟨rfl,rfl⟩:=hm;obtain⟨cur,e2,p1,p2,p3,p4,p5⟩:=(hI.boxes id cs kb hbs hkb.1 hne).1 hkb.2;obtain⟨hK,_⟩:=hI.kill (id:=id) (q:=0) hbs hkb hne;rw[UC p3]at hK;have hco: ∀(j:Nat) (c:AV),((cs.take (k*i.size)).map AV.strip)[j]? =some c->∃u,(cur.toList.take (k*i.size))[j]? =some u/\u.oneCell'=true/\Qd num β w m c u/\∀p w' m' ν',Zz w' m' ν' p c u:=fun j c hc=>by
         obtain⟨d,hd,rfl⟩:=Zn hc;rw[VJ]at hd;split at hd
         ·rename_i hj;obtain⟨u,r1,r2,r3,_⟩:=p5 j d hd;exact⟨u,by rw[WB hj];simpa using r1,r2,by rw[QU];exact r3,fun _ _ _ _=>Yp _ _ _⟩
         ·cases hd
        have hol: (cur.toList.take (k*i.size)).length=k*i.size:=by rw[Xf,Tv];omega
        have hcol: ((cs.take (k*i.size)).map AV.strip).length=k*i.size:=by rw[Vv,Xf];omega
        by_cases hroom:k+n<=cap
        ·have hkn: (k+n)*i.size=k*i.size+n*i.size:=ZT _ _ _;have hcn: (k+n)*i.size<=cap*i.size:=Z5 _ hroom;have hfit:k*i.size+news.length<=cur.size:=by omega
         have hfit2:k*i.size+news.length<=cur.toList.length:=by simpa using hfit
         have hrun:=q2 hn _ _ _ _ _ p1 hroom hfit (by omega) hb2;have hS:=hK.setFloat (cur':=(cur.toList.take (k*i.size)++ news ++ cur.toList.drop (k*i.size+news.length)).toArray) (k:=0) p1 (by simp[Yb]) (fun j u hj hcu=>by omega) (by omega);rw[UC p3]at hS;have hle:=(ZO.setRow (m:=m) (cur':=(cur.toList.take (k*i.size)++ news ++ cur.toList.drop (k*i.size+news.length)).toArray) (k:=0) p1 (fun j u hj hcu=>by omega) (by omega)).le;rw[UC p3]at hle;have hrs: (cur.toList.take (k*i.size)++ news ++ cur.toList.drop (k*i.size+news.length)).toArray.size=cur.size:=by
          rw[WD,Vh _ _ _ hfit2];simp
         have hI3:=hS.toBox (b:=kb.b) (e:=e2) (cs:=(cs.take (k*i.size)).map AV.strip ++ ys) (setRow_heap w kb.b cur _ e2 (0,0) p1) (by simp[Yb]) p3 (by rw[Zo,hcol,hyl,hrs];omega)
          fun i0 c hc=>by
           rw[OD]at hc;split at hc
           ·rename_i hi0;obtain⟨u,r1,r2,r3,r4⟩:=hco i0 c hc;refine⟨u,?_,r2,Zc (Ge.refl β) hle c u r3,r4⟩;rw[hcol]at hi0;rw[S8,Wl _ _ _ hfit2,Qn hi0];rwa[WB hi0]at r1
           ·rename_i hi0;rw[hcol]at hi0 hc;obtain⟨u,r1,r2,r3,r4⟩:=hbox _ c hc;refine⟨u,?_,r2,Zc (Ge.refl β) hle c u r3,r4⟩;have hlt:i0 - k*i.size < news.length:=by
             rcases QR (i0 - k*i.size) news.length with h | h
             ·exact h
             ·rw[Q3 h]at r1;cases r1
            rw[S8,Wl _ _ _ hfit2,Qm hi0,Qn (by omega)];exact r1
         have hI4:=hI3;simp only[Mp]at hI4;have hty:TyA β e (.gs id 0 i.size k)->e2=e:=fun t=>by
          obtain⟨c9,h9⟩:=(hI.boxes id cs kb hbs hkb.1 hne).2.2 hkb.2;have h8:=p1.symm.trans h9;simp only[QD,Obj.cells.injEq]at h8;rcases t with t | ⟨k9,t1,t2⟩
          ·omega
          ·rw[hkb.1]at t1;injection t1 with t1
           rw[h8.2.1,t1,t2]
         refine Qr (hexec _ _ hrun) (h _ _ _ _ _ hI4 ((QT rfl).2 ⟨?_,trivial⟩) fun t=> .inr ⟨_,by rw[<- hI.blen];exact YZ,hty t⟩);simp only[Qd];have hbl:β.length=σ.bs.length:=hI.blen;refine⟨some ⟨kb.b,0,none⟩,cap,rfl,hroom,g4,.inr ⟨⟨kb.b,(cur.toList.take (k*i.size)++ news ++ cur.toList.drop (k*i.size+news.length)).toArray.size,false,_⟩,⟨by rw[<- hbl];exact YZ,rfl⟩,rfl,?_,hsz⟩⟩;simp only[hrs];omega
        ·have holds: ∀j u,(cur.toList.take (k*i.size))[j]? =some u->w.cell? ((⟨kb.b,0,none⟩:Addr).add j)=some u:=fun j u hj=>by
          rw[Ym,Zk,cell_of_row w kb.b j cur e2 (0,0) p1];rw[VJ]at hj;split at hj
          ·simpa using hj
          ·cases hj
         have hrun:=q3 hn ⟨kb.b,0,none⟩ k cap _ hol holds (by omega) (by omega) hb2 (growslice_fits (by omega) hb);have hf:=fresh _ _ (cur.toList.take (k*i.size)) ((cs.take (k*i.size)).map AV.strip) k (grownCap w (k+n) cap e) hK hol hcol hco (grownCap_ge w _ cap e) (grownCap_le_maxLen w _ cap e (by unfold maxLen;omega)) (fun u w' m' β' ν' i1 i2 i3=>h u w' m' β' ν' (by simpa using i1) (by simpa using i2) fun _=> .inr (by simpa using i3));exact Qr (hexec _ _ hrun) hf
      ·cases hm
    ·cases hm
  ·cases hm
def Iw [Dr] {bytes n:Nat} {s:AO} {s':Operand} {e:TypeId} {i:TypeInfo} {z:Value} {ys:Qh} {news:ZE} {ap:Value->Sem Value} {v2:AV} {bs2:Qa}
  (hI:Inv num N w0 m0 T β0 σ a w m β ν) (hs:okO num s s'=true) (hby:0 < i.bytes) (hbe:i.bytes=bytes) (hsz:0 < i.size) (hz:z.cells.size=i.size) (hm:Pu bytes i.size (val σ.env s) (n,ys) σ.bs=some (v2,bs2))
  (hnl:news.length=n*i.size) (hone: ∀u∈news,u.oneCell'=true)
  (hN:0 < n->ys.length=n*i.size/\∀(j:Nat) (c:AV),ys[j]? =some c->∃u,news[j]? =some u/\u.oneCell'=true/\Qd num β w m c u/\∀p w' m' ν',Zz w' m' ν' p c u)
  (hexec: ∀A k cap,a.eval s'= .slice A k cap->∀r w',(ap (.slice A k cap)).run P w= .ok r w'->(execOp a.eval o).run P w= .ok (.value r) w')
  (q0:n=0->∀A k cap,k<=cap->(ap (.slice A k cap)).run P w= .ok (.slice A k cap) w)
  (q1:0 < n->∀A,(n:Int)<=9223372036854775807->n*i.bytes<=281474976710656->(ap (.slice A 0 0)).run P w= .ok (.slice (some ⟨w.heap.size,0,none⟩) n (grownCap w n 0 e)) (w.drew.alloc (.cells (news.toArray ++ Builtin.zeroCells z.cells (grownCap w n 0 e - n)) e)))
  (q2:0 < n->∀g cur e2 sLen sCap,w.heap[g]? =some (.cells cur e2 (0,0))->sLen+n<=sCap->sLen*i.size+news.length<=cur.size->(n:Int)<=9223372036854775807->n*i.bytes<=281474976710656->
   (ap (.slice (some ⟨g,0,none⟩) sLen sCap)).run P w= .ok (.slice (some ⟨g,0,none⟩) (sLen+n) sCap) (w.setRow g (cur.toList.take (sLen*i.size)++ news ++ cur.toList.drop (sLen*i.size+news.length)).toArray))
  (q3:0 < n->∀(b:Addr) sLen sCap (olds:ZE),olds.length=sLen*i.size->(∀j v,olds[j]? =some v->w.cell? (b.add j)=some v)->sCap < sLen+n->((sLen+n:Nat):Int)<=9223372036854775807->n*i.bytes<=281474976710656->Builtin.nextslicecap (sLen+n) sCap*i.bytes<=281474976710656->
   (ap (.slice (some b) sLen sCap)).run P w= .ok (.slice (some ⟨w.heap.size,0,none⟩) (sLen+n) (grownCap w (sLen+n) sCap e))
    (w.drew.alloc (.cells (olds.toArray ++ news.toArray ++ Builtin.zeroCells z.cells (grownCap w (sLen+n) sCap e - (sLen+n))) e)))
  (h:Aft num N w0 m0 T β0 {σ with bs:=bs2} a v2 fun u w'=>next (a.put o.dst u) w'):o.wp P a w next Q:=by
 cases hA:val σ.env s with
 | gs id o1 sz1 k=>
  have hr:=(hI.val hs (by rw[hA];rfl)).1;rw[hA]at hr hm;exact O8 hI hr hby hbe hsz hz hm hnl hone hN hexec q0 q1 q2 q3 fun u w' m' β' ν' i1 i2 _=>h u w' m' β' ν' i1 i2
 | _=>rw[hA]at hm;cases hm
def QgT (bytes sz:Nat) (s x:AV) (bs:Qa):appM bytes sz s x bs=(Wt sz x bs).bind fun q=>Pu bytes sz s q bs:=by
 unfold appM Pu;cases s <;> cases Wt sz x bs <;> rfl
def Qh7 [Dr] {bytes sz:Nat} {s x:AO} {s' x':Operand} {t:TypeId} (hI:Inv num N w0 m0 T β0 σ a w m β ν) (ho:o.op= .call {callee:= .builtin .append,args:= #[s',x'],argTypes:= #[t,t]})
  (ht:W2 P t bytes sz=true) (hs:okO num s s'=true) (hx:okO num x x'=true)
  (he:Qi K (.appM bytes sz s x) σ=some (v,σ1)) (h:Aft num N w0 m0 T β0 σ1 a v fun u w'=>next (a.put o.dst u) w'):o.wp P a w next Q:=by
 simp only[Qi]at he;cases hm:appM bytes sz (val σ.env s) (val σ.env x) σ.bs with
 | none=>rw[hm]at he;cases he
 | some p=>
  rw[hm]at he;obtain⟨v2,bs2⟩:=p;simp only[QS,QD,QV]at he;obtain⟨rfl,rfl⟩:=he;rw[QgT]at hm;cases hsrc:Wt sz (val σ.env x) σ.bs with
  | none=>rw[hsrc]at hm;cases hm
  | some q=>
   obtain⟨n,ys⟩:=q;rw[hsrc]at hm;simp only[QC]at hm;have hxok: (val σ.env x).ok=true:=by
    unfold Wt at hsrc;split at hsrc
    ·rename_i h;rw[h];rfl
    ·rename_i h;rw[h];rfl
    ·cases hsrc
   have hry:=(hI.val hx hxok).1;unfold W2 at ht;split at ht
   ·rename_i e hun;split at ht
    ·rename_i i hi;simp only[Qo,Qv]at ht;obtain⟨⟨⟨⟨rfl,rfl⟩,hsz⟩,hby⟩,hz⟩:=ht;split at hz
     ·rename_i z hzz;simp only[Qv]at hz;obtain⟨B,cap2,hY,hN⟩:=DO hI hsz hsrc hry;obtain⟨news,hB,hnl,hone,hN2⟩: ∃news:ZE,(0 < n->∃b2 of2,B=some ⟨b2,of2,none⟩/\∀j u,news[j]? =some u->w.cell? ((⟨b2,of2,none⟩:Addr).add j)=some u)/\news.length=n*i.size/\(∀u∈news,u.oneCell'=true)/\
        (0 < n->ys.length=n*i.size/\∀(j:Nat) (c:AV),ys[j]? =some c->∃u,news[j]? =some u/\u.oneCell'=true/\Qd num β w m c u/\∀p w' m' ν',Zz w' m' ν' p c u):=by
       by_cases hn:0 < n
       ·obtain⟨b2,of2,news,hb,hnl,hnews,hone,hyl,hbox⟩:=hN hn;exact⟨news,fun _=>⟨b2,of2,hb,fun j u hj=>by rw[Ym];exact hnews j u hj⟩,hnl,hone,fun _=>⟨hyl,hbox⟩⟩
       ·have:n=0:=by omega
        subst this;exact⟨[],fun h=>absurd h (by omega),by simp,by simp,fun h=>absurd h (by omega)⟩
      refine Iw (e:=e) (z:=z) (ap:=fun s=>Builtin.append_ #[t,t] o.type #[s,.slice B n cap2]) hI hs hby rfl hsz hz hm hnl hone hN2 (fun A k cap hu r w' hrr=> ?_) (fun h0 A k cap hk=> ?_) (fun hn A h1 h2=> ?_) (fun hn g cur e2 sLen sCap hg hr hf h1 h2=> ?_) (fun hn b sLen sCap olds h1 h2 h3 h4 h5 h6=> ?_) h
      ·simp only[execOp,ho,resolve,invoke,builtin,V5,Yf,Wr,hu,hY,Sem.run_bind,Sem.run_pure,Result.andThen_ok,hrr]
      ·subst h0;exact UK hun hi hk
      ·obtain⟨b2,of2,rfl,hnews⟩:=hB hn;exact Uq hun hi hzz hnl hnews hn h1 h2
      ·obtain⟨b2,of2,rfl,hnews⟩:=hB hn;exact X1 hun hi hg hnl hnews hone hr hf
      ·obtain⟨b2,of2,rfl,hnews⟩:=hB hn;exact run_append_grow w t o.type e i z hun hi hzz b sLen sCap olds h1 h2 ⟨b2,of2,none⟩ n cap2 news hnl hnews h3 h4 h6
     ·cases hz
    ·cases ht
   ·cases ht
def A5 (P:Program) (t:TypeId):Bool:=match P.underlying t with
 | some (.int .i64)=>true
 | _=>false
def OA:=@Int.toNat_natCast
def Qm2 [Dr] {bytes sz:Nat} {zs:Qh} {s x:AO} {s' x':Operand} {t t2:TypeId} (hI:Inv num N w0 m0 T β0 σ a w m β ν) (ho:o.op= .call {callee:= .builtin .append,args:= #[s',x'],argTypes:= #[t,t2]})
  (ht:W2 P t bytes sz=true) (hM:mkT P t bytes sz zs=true) (h2:A5 P t2=true) (hs:okO num s s'=true) (hx:okO num x x'=true)
  (he:Qi K (.apn bytes sz zs s x) σ=some (v,σ1)) (h:Aft num N w0 m0 T β0 σ1 a v fun u w'=>next (a.put o.dst u) w'):o.wp P a w next Q:=by
 simp only[Qi]at he;split at he
 ·rename_i n hn;split at he
  ·rename_i hc;obtain⟨h0,hb⟩:=hc;obtain⟨n,rfl⟩:=Int.eq_ofNat_of_zero_le h0;simp only[OA]at he hb;cases hm:Pu bytes sz (val σ.env s) (n,(List.replicate n zs).flatten) σ.bs with
   | none=>rw[hm]at he;cases he
   | some p=>
    rw[hm]at he;obtain⟨v2,bs2⟩:=p;simp only[QS,QD,QV]at he;obtain⟨rfl,rfl⟩:=he;have hv:=(hI.val hx (by rw[hn];rfl)).1;rw[hn]at hv;simp only[Qd]at hv;have hu2:P.underlying t2=some (.int .i64):=by
     unfold A5 at h2;split at h2
     ·assumption
     ·cases h2
    unfold W2 at ht;split at ht
    ·rename_i e hun;split at ht
     ·rename_i i hi;simp only[Qo,Qv]at ht;obtain⟨⟨⟨⟨rfl,rfl⟩,hsz⟩,hby⟩,hz⟩:=ht;split at hz
      ·rename_i z hzz;simp only[Qv]at hz;simp only[mkT,hun,hi,hzz,ON,VL]at hM;obtain⟨hl,hcs⟩:=YN _ _ hM;have hzs:zs.length=z.cells.size:=by have h9:=hl;simp at h9;exact h9.symm
       have hzp:0 < z.cells.size:=by omega
       have hb2:n*i.bytes<=281474976710656:=by omega
       have hn63: (n:Int)<=9223372036854775807:=by
        have:n<=n*i.bytes:=Oz _ hby;omega
       have hzl:=Qef z.cells n;rw[hz]at hzl;have hget: ∀(j:Nat) (c:AV),(List.replicate n zs).flatten[j]? =some c->∃u,(Builtin.zeroCells z.cells n).toList[j]? =some u/\u.oneCell'=true/\Qd num β w m c u/\∀p w' m' ν',Zz w' m' ν' p c u:=fun j c hj=>by
        have hjl:j < n*z.cells.size:=by
         rcases QR j (List.replicate n zs).flatten.length with h | h
         ·simpa[hzs]using h
         ·rw[Q3 h]at hj;cases hj
        have hj2:=Nt zs n j c hj;obtain⟨u,g1,g2⟩:=hcs _ c hj2;have hg:=Zu (num:=num) (β:=β) (w:=w) (m:=m) (ν:=ν) g2;refine⟨u,?_,hg.2.1,hg.1,fun p w' m' ν'=>(Zu (num:=num) (β:=β) (w:=w') (m:=m') (ν:=ν') g2).2.2 p⟩;have hlt:j % z.cells.size < z.cells.size:=Ps _ hzp;rw[hzs]at g1;have g1':z.cells[j % z.cells.size]? =some u:=by simpa using g1
        rw[Wa hlt]at g1';injection g1' with g1'
        unfold Builtin.zeroCells;rw[OB,KU,KO,Qn hjl];simp only[QS,QD];rw[Vl z.cells _ hlt];exact g1'
       have hone1: ∀u∈z.cells,u.oneCell'=true:=fun u hu=>by
        obtain⟨j,hj,rfl⟩:=Array.getElem_of_mem hu;have hjz:j < zs.length:=by omega
        obtain⟨u2,g1,g2⟩:=hcs j _ (Zv hjz);have hg:=(Zu (num:=num) (β:=β) (w:=w) (m:=m) (ν:=ν) g2).2.1;have g1':z.cells[j]? =some u2:=by simpa using g1
        rw[Wa hj]at g1';injection g1' with g1'
        rw[g1'];exact hg
       have hone: ∀u∈(Builtin.zeroCells z.cells n).toList,u.oneCell'=true:=fun u hu=>by
        simp only[Builtin.zeroCells,Array.toList_map,W8]at hu;obtain⟨j,_,rfl⟩:=hu;have hmm:=Ps j hzp;rw[Vl z.cells (j % z.cells.size) hmm];exact hone1 _ (Array.getElem_mem hmm)
       have hpos:0 < n->0 < n*i.size:=fun h=>Si h hsz;refine Iw (e:=e) (z:=z) (ap:=fun s=>Builtin.append_ #[t,t2] o.type #[s,.int .i64 n]) hI hs hby rfl hsz hz hm hzl hone (fun h=>⟨by simp[hzs,hz],hget⟩) (fun A k cap hu r w' hrr=> ?_) (fun h0 A k cap hk=> ?_) (fun hn A h1 h2=> ?_)
        (fun hn g cur e2 sLen sCap hg hr hf h1 h2=> ?_) (fun hn b sLen sCap olds h1 h2 h3 h4 h5 h6=> ?_) h
       ·simp only[execOp,ho,resolve,invoke,builtin,V5,Yf,Wr,hu,hv,Sem.run_bind,Sem.run_pure,Result.andThen_ok,hrr]
       ·subst h0;exact HD hun hu2 hi hk
       ·have:=N0 (w:=w) (ty:=o.type) (base:=A) (sLen:=0) (sCap:=0) (k:=n) (olds:=[]) hun hu2 hi hzz (by simp) (by cases A <;> simp[Builtin.firstCells,loadCells,loadCellsFrom]) (hpos hn) (by omega) (by simpa using h1) h2 (by rw[Zk,nextslicecap_zero hn];exact h2);simpa using this
       ·exact Cx hun hu2 hi hzz hz hg hone1 (hpos hn) h1 h2 hr (by rw[<- hzl];exact hf)
       ·exact N0 hun hu2 hi hzz h1 (run_firstCells_some (P:=P) w.drew i.size sLen b sLen sCap olds h1 (by simpa using h2)) (hpos hn) h3 h4 h5 h6
      ·cases hz
     ·cases ht
    ·cases ht
  ·cases he
 ·cases he
def Qiz [Dr] {sz:Nat} {x:AO} {lo hi:Option AO} {x':Operand} {lo' hi':Option Operand} {t:TypeId} (hI:Inv num N w0 m0 T β0 σ a w m β ν) (ho:o.op= .slice t x' lo' hi' none) (ht:XD P t sz=true) (hx:okO num x x'=true)
  (hlo:Vy num lo lo'=true) (hhi:Vy num hi hi'=true)
  (he:Qi K (.slcx sz x lo hi) σ=some (v,σ1)) (h:Aft num N w0 m0 T β0 σ1 a v fun u w'=>next (a.put o.dst u) w'):o.wp P a w next Q:=by
 simp only[Qi]at he;split at he
 ·rename_i id of sz1 kn hA;split at he
  ·rename_i hsz;obtain⟨rfl,hszp⟩:=hsz;cases hbs:σ.bs[id]? with
   | none=>rw[hbs]at he;cases he
   | some cs=>
    rw[hbs]at he;simp only[QC]at he;cases hb1:ZG ((cs.length - of) / sz1) kn (hi.map (val σ.env))with
    | none=>rw[hb1]at he;cases he
    | some H=>
     rw[hb1]at he;simp only[QC]at he;cases hb2:ZG H 0 (lo.map (val σ.env))with
     | none=>rw[hb2]at he;cases he
     | some L=>
      rw[hb2]at he;injection he with he
      injection he with h1 h2
      subst h1 h2;have g1:=(hI.val hx (by rw[hA];rfl)).1;rw[hA]at g1;simp only[Qd]at g1;obtain⟨A,cap,g1,g3,g4,g5⟩:=g1;have hbig: (cs.length - of) / sz1<=cap:=by
       by_cases hne:cs=[]
       ·subst hne;simp
       rcases g5 with⟨q1,q2,q3⟩ | ⟨kb,q1,q2,q3,_⟩
       ·rcases q3 with q3 | ⟨kb,q3,q4⟩
        ·omega
        ·obtain⟨cur,e2,p1,p2,_⟩:=(hI.boxes id cs kb hbs q3.1 hne).1 q3.2;have:cs.length - of=0:=by omega
         rw[this];simp
       ·obtain⟨cur,e2,p1,p2,_⟩:=(hI.boxes id cs kb hbs q1.1 hne).1 q1.2;have:cs.length - of<=cap*sz1:=by omega
        exact Nat.div_le_of_le_mul (by rw[Nat.mul_comm];exact this)
      have hH:H<=cap:=by
       rcases ZN hI hhi hb1 with⟨_,rfl⟩ | ⟨_,_,h,_⟩ <;> omega
      have hL:L<=H:=by
       rcases ZN hI hlo hb2 with⟨_,rfl⟩ | ⟨_,_,h,_⟩ <;> omega
      have e1: (hi'.map a.eval=none/\H=kn)\/∃kd,hi'.map a.eval=some (.int kd (H:Int)):=by
       rcases ZN hI hhi hb1 with⟨rfl,rfl⟩ | ⟨y',rfl,_,kd,hk⟩
       ·exact .inl ⟨rfl,rfl⟩
       ·exact .inr ⟨kd,by simp[hk]⟩
      have e2: (lo'.map a.eval=none/\L=0)\/∃kd,lo'.map a.eval=some (.int kd (L:Int)):=by
       rcases ZN hI hlo hb2 with⟨rfl,rfl⟩ | ⟨y',rfl,_,kd,hk⟩
       ·exact .inl ⟨rfl,rfl⟩
       ·exact .inr ⟨kd,by simp[hk]⟩
      unfold XD at ht;split at ht
      ·rename_i e hu;refine Qr (u:= .slice (if cap=L then A else A.map (·.add (L*sz1))) (H - L) (cap - L)) (w':=w) ?_ (h.same hI rfl ?_ trivial)
       ·simp only[execOp,ho,g1,Instr.sliceAt,Instr.slice,Sem.run_bind,run_underlying hu,Result.andThen_ok,Po];rw[VU e1 e2 (by omega) hL];simp only[Result.andThen_ok,ZH ht];rfl
       ·simp only[Qd];refine⟨_,_,rfl,by omega,by omega,?_⟩;by_cases hLH:cap=L
        ·left;refine⟨by omega,by omega,?_⟩;rcases g5 with⟨q1,q2,q3⟩ | ⟨kb,q1,q2,q3,_⟩
         ·rcases q3 with q3 | ⟨kb,q3,q4⟩
          ·omega
          ·exact .inr ⟨kb,q3,by omega,hszp⟩
         ·exact .inr ⟨kb,q1,by rw[hLH]at q3;exact Mv q3.symm,hszp⟩
        ·rcases g5 with⟨q1,q2,q3⟩ | ⟨kb,g5,rfl,g6,_⟩
         ·clear q3;omega
         ·right;have hmul:L*sz1+ (cap - L)*sz1=cap*sz1:=by rw[<- ZT];congr 1;omega
          exact⟨kb,g5,by rw[Qm (by omega)];simp[Ym],by omega,hszp⟩
      ·cases ht
  ·cases he
 ·cases he
def PQ {l h mx len cap:Nat} {lo:QmC} {kh km:IntKind} (hl: (lo=none/\l=0)\/∃kd,lo=some (.int kd (l:Int)))
  (h0:mx<=cap) (h1:h<=mx) (h2:l<=h): (Instr.sliceBounds true len cap lo (some (.int kh (h:Int))) (some (.int km (mx:Int)))).run P w= .ok (l,h,mx) w:=by
 have hb: ∀(kd:IntKind) (n y:Nat) (c:BoundsCode),n<=y->(Instr.sliceBound (.int kd (n:Int)) y c).run P w= .ok n w:=fun kd n y c hn=>by
  simp only[Instr.sliceBound,asIntOf,Sem.run_bind,Sem.run_pure,Result.andThen_ok];rw[Qn (by omega)];rfl
 rcases hl with⟨rfl,rfl⟩ | ⟨kd2,rfl⟩ <;> simp only[Instr.sliceBounds,Sem.run_bind,Sem.run_pure,Result.andThen_ok,hb _ _ _ _ h0,hb _ _ _ _ h1,hb _ _ _ _ h2]
def Qiw [Dr] {sz:Nat} {x hi mx:AO} {x' hi' mx':Operand} {t:TypeId} (hI:Inv num N w0 m0 T β0 σ a w m β ν) (ho:o.op= .slice t x' none (some hi') (some mx')) (ht:XD P t sz=true) (hx:okO num x x'=true)
  (hhi:okO num hi hi'=true) (hmx:okO num mx mx'=true)
  (he:Qi K (.slcf sz x hi mx) σ=some (v,σ1)) (h:Aft num N w0 m0 T β0 σ1 a v fun u w'=>next (a.put o.dst u) w'):o.wp P a w next Q:=by
 simp only[Qi]at he;split at he
 ·rename_i o2 sz1 xs hA;split at he
  ·rename_i hsz;subst hsz;cases hb0:ZG xs.length 0 (some (val σ.env mx))with
   | none=>rw[hb0]at he;cases he
   | some M=>
    rw[hb0]at he;simp only[QC]at he;cases hb1:ZG M 0 (some (val σ.env hi))with
    | none=>rw[hb1]at he;cases he
    | some H=>
     rw[hb1]at he;simp only[QC]at he;split at he
     ·rename_i hHM;subst hHM;injection he with he
      injection he with h1 h2
      subst h1 h2;have g1:=(hI.val hx (by rw[hA];rfl)).1;rw[hA]at g1;simp only[Qd]at g1;obtain⟨A,len,cap,g1,g2,g3,g4,g5⟩:=g1;have q0:H<=xs.length/\∃kd,a.eval mx'= .int kd (H:Int):=by
       rcases ZN (x:=some mx) (y:=some mx') hI hmx hb0 with⟨h,_⟩ | ⟨y',hy,h,kd,hk⟩
       ·cases h
       ·injection hy with hy;subst hy;exact⟨h,kd,hk⟩
      have q1: ∃kd,a.eval hi'= .int kd (H:Int):=by
       rcases ZN (x:=some hi) (y:=some hi') hI hhi hb1 with⟨h,_⟩ | ⟨y',hy,h,kd,hk⟩
       ·cases h
       ·injection hy with hy;subst hy;exact⟨kd,hk⟩
      obtain⟨q0,km,hkm⟩:=q0;obtain⟨kh,hkh⟩:=q1;unfold XD at ht;split at ht
      ·rename_i e hu2;refine Qr (u:= .slice (if H=0 then A else A.map (·.add (0*sz1))) (H - 0) (H - 0)) (w':=w) ?_ (h.same hI rfl ?_ (.inl ⟨_,_,rfl⟩))
       ·simp only[execOp,ho,g1,hkm,hkh,Instr.sliceAt,Instr.slice,Sem.run_bind,run_underlying hu2,Result.andThen_ok,QS,Po];rw[PQ (.inl ⟨rfl,rfl⟩) (by omega) (ZJ _) (Pr _)];simp only[Result.andThen_ok,ZH ht];rfl
       ·simp only[Qd];refine⟨_,_,_,rfl,by rw[Xf];omega,ZJ _,by omega,?_⟩;rcases g5 with g5 | ⟨b,of,rfl,g5⟩
        ·exact .inl (by rw[g5];simp)
        ·by_cases hH0:H=0
         ·exact .inl (by rw[hH0];simp)
         ·refine .inr ⟨b,of,by rw[Qm hH0];simp[Ym],?_⟩;rw[Xr]at g5 ⊢;intro i y hy;rw[VJ]at hy;split at hy
          ·exact g5 i y hy
          ·cases hy
      ·cases ht
     ·cases he
  ·cases he
 ·cases he
def Qiv [Dr] {sz:Nat} {x hi mx:AO} {lo:Option AO} {x' hi' mx':Operand} {lo':Option Operand} {t:TypeId} (hI:Inv num N w0 m0 T β0 σ a w m β ν) (ho:o.op= .slice t x' lo' (some hi') (some mx')) (ht:XD P t sz=true) (hx:okO num x x'=true)
  (hlo:Vy num lo lo'=true) (hhi:okO num hi hi'=true) (hmx:okO num mx mx'=true)
  (he:Qi K (.slcc sz x lo hi mx) σ=some (v,σ1)) (h:Aft num N w0 m0 T β0 σ1 a v fun u w'=>next (a.put o.dst u) w'):o.wp P a w next Q:=by
 simp only[Qi]at he;have key: ∀(kn:Nat) (A:UG) (cap:Nat),a.eval x'= .slice A kn cap->kn<=cap->(ZG kn 0 (some (val σ.env mx))).bind (fun M=>(ZG M 0 (some (val σ.env hi))).bind fun H=>(ZG H 0 (lo.map (val σ.env))).map fun _=>(AV.undef,σ))=some (v,σ1)->o.wp P a w next Q:=by
  intro kn A cap hu hcap he;cases hb0:ZG kn 0 (some (val σ.env mx))with
  | none=>rw[hb0]at he;cases he
  | some M=>
   rw[hb0]at he;simp only[QC]at he;cases hb1:ZG M 0 (some (val σ.env hi))with
   | none=>rw[hb1]at he;cases he
   | some H=>
    rw[hb1]at he;simp only[QC]at he;cases hb2:ZG H 0 (lo.map (val σ.env))with
    | none=>rw[hb2]at he;cases he
    | some L=>
     rw[hb2]at he;injection he with he
     injection he with h1 h2
     subst h1 h2;have q0:M<=kn/\∃kd,a.eval mx'= .int kd (M:Int):=by
      rcases ZN (x:=some mx) (y:=some mx') hI hmx hb0 with⟨h,_⟩ | ⟨y',hy,h,kd,hk⟩
      ·cases h
      ·injection hy with hy;subst hy;exact⟨h,kd,hk⟩
     have q1:H<=M/\∃kd,a.eval hi'= .int kd (H:Int):=by
      rcases ZN (x:=some hi) (y:=some hi') hI hhi hb1 with⟨h,_⟩ | ⟨y',hy,h,kd,hk⟩
      ·cases h
      ·injection hy with hy;subst hy;exact⟨h,kd,hk⟩
     obtain⟨q0,km,hkm⟩:=q0;obtain⟨q1,kh,hkh⟩:=q1;have hL:L<=H:=by
      rcases ZN hI hlo hb2 with⟨_,rfl⟩ | ⟨_,_,h,_⟩ <;> omega
     have e2: (lo'.map a.eval=none/\L=0)\/∃kd,lo'.map a.eval=some (.int kd (L:Int)):=by
      rcases ZN hI hlo hb2 with⟨rfl,rfl⟩ | ⟨y',rfl,_,kd,hk⟩
      ·exact .inl ⟨rfl,rfl⟩
      ·exact .inr ⟨kd,by simp[hk]⟩
     unfold XD at ht;split at ht
     ·rename_i e hu2;refine Qr (u:= .slice (if M=L then A else A.map (·.add (L*sz))) (H - L) (M - L)) (w':=w) ?_ (h _ w m β ν hI trivial);simp only[execOp,ho,hu,hkm,hkh,Instr.sliceAt,Instr.slice,Sem.run_bind,run_underlying hu2,Result.andThen_ok,QS];rw[PQ e2 (by omega) q1 hL];simp only[Result.andThen_ok,ZH ht];rfl
     ·cases ht
 split at he
 ·rename_i o2 sz1 xs hA;have g1:=(hI.val hx (by rw[hA];rfl)).1;rw[hA]at g1;simp only[Qd]at g1;obtain⟨A,len,cap,g1,g2,g3,g4,g5⟩:=g1;subst g2;exact key _ A cap g1 g3 he
 ·rename_i id of sz1 kn hA;have g1:=(hI.val hx (by rw[hA];rfl)).1;rw[hA]at g1;simp only[Qd]at g1;obtain⟨A,cap,g1,g3,g4,g5⟩:=g1;exact key _ A cap g1 g3 he
 ·cases he
end
end Go.Am
namespace Go.Am
def Pl.isG:Pl->Bool
 | .g _=>true
 | .gc _ _=>true
 | _=>false
def RC (num:Y0) (β:Xv) (w:World) (m:ZF) (ν:Own) (bs:Qa):Prop:=
 β.length=bs.length/\(∀(i:Nat) (cs:Qh) (k:Blk),bs[i]? =some cs->β[i]? =some k->cs≠[]->Oi num β w m ν i k cs)
def TI [Dr] (num:Y0) (β:Xv) (bs':Qa) (r:AV) (w:World) (m:ZF) (ν:Own) (e:Ending) (w':World):Prop:=
 ∃v m' β' ν',e= .returned v/\Ge β β'/\ZO (fun b=>∃p,ν b=some p) w m w' m'/\RC num β' w' m' ν' bs'/\r.ok=true/\Qd num β' w' m' r v/\Zz w' m' ν' .f r v/\
  ∀b p,ν' b=some p->b < w'.heap.size/\(w.heap.size<=b\/∃q,ν b=some q)/\(p.isG=true\/p= .f)
structure YU [Dr] where
 G:World->(Nat->Nat)->Prop
 Gb:Nat
 nm:Nat->Nat->Prop
 tab: ∀(w:World) (m:Nat->Nat) (k g:Nat) (num:Nat->Option Nat),G w m->nm k g->∃u,w.cell? ⟨g,0,none⟩=some u/\u.oneCell'=true/\Qd num [] w m (Kv k) u
 step: ∀(X:Nat->Prop) (w:World) (m:Nat->Nat) (w':World) (m':Nat->Nat),ZO X w m w' m'->(∀b,X b->Gb<=b)->Gb<=w.heap.size->G w m->G w' m'
def KOk [Dr] (P:Program) (num:Y0) (Γ:YU) (K:Yo):Prop:=
 (∀k g,P.globalNamed (Lj k)=some g->Γ.nm k g)/\∀(f g:Nat) (args:Qh) (bs:Qa) (r:AV) (bs':Qa),num f=some g->K f args bs=some (r,bs')->XH args=true->
  ∀(w:World) (m:ZF) (β:Xv) (ν:Own) (vs:Ze),Γ.G w m->Γ.Gb<=w.heap.size->vs.size=args.length->
   (∀(i:Nat) (c:AV),args[i]? =some c->∃u,vs[i]? =some u/\Qd num β w m c u)->RC num β w m ν bs->
   (∀b p,ν b=some p->b < w.heap.size/\Γ.Gb<=b/\p.isG=true)->
   Calls P g vs w (TI num β bs' r w m ν)
def Vj (P:Program) (num:Y0):Prop:=∀(f g:Nat),num f=some g->∃fn,P.funcs[g]? =some fn/\(fn.name == "runtime.NumGoroutine")=false/\fn.body.isNone=false
section
variable {P:Program} {num:Nat->Option Nat} {β:List Blk} {w w':World} {m:Nat->Nat} {ν:Own} {N:Nat} {w0:World} {m0:Nat->Nat} {T:Nat->Prop} {β0:List Blk} {σ σ1:St} {a:Act}
 {o:Oper} {next:Act->World->Prop} {Q:Exit->Act->World->Prop} {K:Yo} {v:AV}
def Sr (ν:Own):Own:=fun b=>match ν b with
 | some p=>if p.isG then some p else none
 | none=>none
def Te {ν:Own} {b:Nat} {p:Pl} (h:Sr ν b=some p):ν b=some p/\p.isG=true:=by
 unfold Sr at h;split at h
 ·split at h
  ·rename_i q hq hg;injection h with h
   subst h;exact⟨hq,hg⟩
  ·cases h
 ·cases h
def Bx {ν:Own} {b:Nat} {p:Pl} (h:ν b=some p) (hg:p.isG=true):Sr ν b=some p:=by
 unfold Sr;rw[h];simp[hg]
def RW (ν ν':Own):Own:=fun b=>match ν b with
 | some p=>if p.isG then ν' b else some p
 | none=>ν' b
def Qej {i:Nat} {kb:Blk} {cs:Qh} {m':ZF} {ν1 ν2:Own} (h:Oi num β w' m' ν1 i kb cs) (k: ∀b p,ν1 b=some p->ν2 b=some p):Oi num β w' m' ν2 i kb cs:=
 Wm (Ge.refl β) (Le.refl w' m') (fun x hx=>⟨rfl,rfl,k x _ hx⟩) (fun _ x hx=>⟨rfl,rfl,k x _ hx⟩) h
def Inv.call [Dr] (hI:Inv num N w0 m0 T β0 σ a w m β ν) {bs':Qa} {r:AV} {e:Ending} (h:TI num β bs' r w m (Sr ν) e w'):
  ∃v m' β' ν',e= .returned v/\Inv num N w0 m0 T β0 {σ with bs:=bs'} a w' m' β' ν'/\Uf num β' w' m' ν' .f (fun i=> .fc i) r v:=by
 obtain⟨v,m',β',ν1,he,hge,hS,⟨hb1,hb2⟩,hok,hr,hown,hlt⟩:=h;have hk: ∀b p,ν1 b=some p->RW ν ν1 b=some p:=fun b p hp=>by
  unfold RW;cases hν:ν b with
  | none=>exact hp
  | some q=>
   by_cases hg:q.isG=true
   ·simp only[hg,Zl];exact hp
   ·exfalso;have h1:=(hI.lt b q hν).1;rcases(hlt b p hp).2.1 with h2 | ⟨q2,h2⟩
    ·omega
    ·obtain⟨h3,h4⟩:=Te h2;rw[hν]at h3;injection h3 with h3
     subst h3;exact hg h4
 refine⟨v,m',β',RW ν ν1,he,?_,(QT hok).2 ⟨hr,?_⟩⟩
 ·refine hI.next hS (fun b hb hx=> ?_) hge (fun _=>False) (fun _=>True)
   (fun b t hb _=>⟨fun⟨p,hp⟩=> ?_,?_⟩) (fun b t i hb _=>⟨fun⟨p,hp⟩=> ?_,?_⟩) (fun _ _ _ h=>absurd trivial h) (fun _ _ _ _ h=>absurd trivial h)
   (fun b p hp=> ?_) (fun _ _=> .inl rfl) hI.out (fun _ _ h=>h.elim) hb1 (fun _ h=>absurd trivial h) (fun i cs b _ h1 h2 hne=>Qej (hb2 i cs b h1 h2 hne) hk)
  ·obtain⟨p,hp⟩:=hx;exact(hI.lt b p (Te hp).1).2
  ·have:=Te hp;rw[hb]at this;obtain⟨h1,h2⟩:=this;injection h1 with h1
   subst h1;cases h2
  ·unfold RW;rw[hb];rfl
  ·have:=Te hp;rw[hb]at this;obtain⟨h1,h2⟩:=this;injection h1 with h1
   subst h1;cases h2
  ·unfold RW;rw[hb];rfl
  ·have hold: ∀q,ν b=some q->b < w'.heap.size/\(w0.heap.size<=b\/T b):=fun q hq=>by
    have h1:=hI.lt b q hq;have h2:=hS.size;exact⟨by omega,h1.2⟩
   unfold RW at hp;split at hp
   ·rename_i q hq;exact hold q hq
   ·rename_i hq;have h1:=hlt b p hp;refine⟨h1.1,.inl ?_⟩;rcases h1.2.1 with h2 | ⟨q2,h2⟩
    ·have h3:=hI.step.size;omega
    ·rw[(Te h2).1]at hq;cases hq
 ·exact Wn (θ:=id) (fun x hx=>⟨rfl,rfl,hk x _ hx⟩) hown
def Inv.glob [Dr] {Γ:YU} (hI:Inv num N w0 m0 T β0 σ a w m β ν) (hG:Γ.G w0 m0) (hGb:Γ.Gb<=w0.heap.size) (hT: ∀b,T b->Γ.Gb<=b):Γ.G w m/\Γ.Gb<=w.heap.size/\∀b p,Sr ν b=some p->b < w.heap.size/\Γ.Gb<=b/\p.isG=true:=by
 refine⟨Γ.step T w0 m0 w m hI.step hT hGb hG,Uu hGb hI.step.size,fun b p hp=> ?_⟩;obtain⟨h1,h2⟩:=Te hp;have h3:=hI.lt b p h1;refine⟨h3.1,?_,h2⟩;rcases h3.2 with h4 | h4
 ·omega
 ·exact hT b h4
def Inv.boxesOf [Dr] (hI:Inv num N w0 m0 T β0 σ a w m β ν):RC num β w m (Sr ν) σ.bs:=
 ⟨hI.blen,fun i cs b h1 h2 hne=>Wm (Ge.refl β) (Le.refl w m) (fun _ hx=>⟨rfl,rfl,Bx hx rfl⟩) (fun _ _ hx=>⟨rfl,rfl,Bx hx rfl⟩) (hI.boxes i cs b h1 h2 hne)⟩
def IX {g:Nat} {vs:Ze} {fn:Func} (hf:P.funcs[g]? =some fn) (hn: (fn.name == "runtime.NumGoroutine")=false) (hb:fn.body.isNone=false):
  (callFunc g vs).run P w= .ok (.enter g vs) w:=by
 simp only[callFunc,Sem.run_bind,run_program,Result.andThen_ok,hf,hn,hb,Z3,Zd,Sem.run_pure]
def It [Dr] {g:Nat} {vs:Ze} {bs':Qa} {r:AV} (hI:Inv num N w0 m0 T β0 σ a w m β ν) (hE:Vj P num) {f:Nat} (hf:num f=some g) (hrun: (execOp a.eval o).run P w=(callFunc g vs).run P w)
  (hc:Calls P g vs w (TI num β bs' r w m (Sr ν))) (h:Aft num N w0 m0 T β0 {σ with bs:=bs'} a r fun u w'=>next (a.put o.dst u) w'):o.wp P a w next Q:=by
 obtain⟨fn,h1,h2,h3⟩:=hE f g hf;unfold Oper.wp;rw[hrun,IX h1 h2 h3];simp only[Oper.upon];refine hc.mono fun e w' he=> ?_;obtain⟨v,m',β',ν',rfl,hI',hs⟩:=hI.call he;exact h v w' m' β' ν' hI' hs
def Dm {xs:Ug} {ys:SN} (h:Xl num xs ys=true):xs.length=ys.length:=by
 induction xs generalizing ys with
 | nil=>cases ys <;> simp[Xl]at h ⊢
 | cons x xs ih=>cases ys with
  | nil=>simp[Xl]at h
  | cons y ys=>simp only[Xl,Qo]at h;simp[ih h.2]
mutual
theorem Qm0: ∀(a b:AV),eqV a b=true->a=b:=by
 intro a b h;cases a <;> cases b <;> simp only[eqV,Qo,Qv,V7,Z3]at h <;> try rfl
 case int.int=>rw[h.1,h.2]
 case bool.bool=>rw[h]
 case str.str=>rw[h]
 case agg.agg=>rw[VE _ _ h]
 case sl.sl=>rw[h.1.1,h.1.2,OT _ _ h.2]
 case bx.bx=>rw[VE _ _ h]
 case gp.gp=>rw[h.1,h.2]
 case gs.gs=>rw[h.1.1.1,h.1.1.2,h.1.2,h.2]
 case rptr.rptr=>rw[VE _ _ h]
 case fn.fn=>rw[h.1,VE _ _ h.2]
 case bf.bf=>rw[h.1,VE _ _ h.2]
 case tup.tup=>rw[VE _ _ h]
 case err.err=>rw[h]
 case mp.mp=>rw[h]
 case gb.gb=>rw[h.1.1,h.1.2,h.2]
 case gt.gt=>rw[h.1,h.2]
 case pv.pv=>rw[h.1,VE _ _ h.2]
 case otup.otup=>rw[h.1.1,OT _ _ h.1.2,VE _ _ h.2]
theorem VE: ∀(a b:List AV),UF a b=true->a=b
 | [],[],_=>rfl
 | x:: xs,y:: ys,h=>by
  simp only[UF,Qo]at h;rw[Qm0 x y h.1,VE xs ys h.2]
 | [],_:: _,h=>by simp[UF]at h
 | _:: _,[],h=>by simp[UF]at h
theorem OT: ∀(a b:List (List AV)),PB a b=true->a=b
 | [],[],_=>rfl
 | x:: xs,y:: ys,h=>by
  simp only[PB,Qo]at h;rw[VE x y h.1,OT xs ys h.2]
 | [],_:: _,h=>by simp[PB]at h
 | _:: _,[],h=>by simp[PB]at h
end
mutual
theorem Qe3: ∀a:AV,eqV a a=true:=by
 intro a;cases a <;> simp[eqV]
 case agg cs=>exact Xj cs
 case sl o z xs=>exact P8 xs
 case bx cs=>exact Xj cs
 case rptr cs=>exact Xj cs
 case fn f cs=>exact Xj cs
 case bf f cs=>exact Xj cs
 case tup vs=>exact Xj vs
 case pv z cs=>exact Xj cs
 case otup z xs vs=>exact⟨P8 xs,Xj vs⟩
theorem Xj: ∀l:List AV,UF l l=true
 | []=>rfl
 | x:: xs=>by simp[UF,Qe3 x,Xj xs]
theorem P8: ∀l:List (List AV),PB l l=true
 | []=>rfl
 | x:: xs=>by simp[PB,Xj x,P8 xs]
end
def Qni [Dr] {Γ:YU} {k g:Nat} {t:TypeId} (hI:Inv num N w0 m0 T β0 σ a w m β ν) (hK:KOk P num Γ K) (hG:Γ.G w0 m0) (hGb:Γ.Gb<=w0.heap.size) (hT: ∀b,T b->Γ.Gb<=b)
  (ho:o.op= .load t (.global g)) (hg:P.globalNamed (Lj k)=some g) (ha:Ws P t false=true)
  (he:Qi K (.lgb k) σ=some (v,σ1)) (h:Aft num N w0 m0 T β0 σ1 a v fun u w'=>next (a.put o.dst u) w'):o.wp P a w next Q:=by
 simp only[Qi]at he;split at he
 ·rename_i hc;injection he with he
  injection he with h1 h2
  subst h1 h2;obtain⟨g1,_,_⟩:=hI.glob hG hGb hT;obtain⟨u,c1,c2,c3⟩:=Γ.tab w m k g num g1 (hK.1 k g hg);have c4:Qd num β w m (Kv k) u:=Zc (fun i b h=>by simp at h) (Le.refl w m) _ u c3;refine Qr (u:=u) (w':=w) ?_ (h.same hI (by rw[TD hc.1]) c4 (CO hc.2 _ _ _ _ _));have hq:a.eval (.global g)= .pointer (some ⟨g,0,none⟩):=rfl;simp only[execOp,ho,Instr.loadAt,hq,Instr.sureAddr,Sem.run_bind,Sem.run_pure,Result.andThen_ok,loadVar,YX ha,Z3,Zd,run_load,c1]
 ·cases he
def Bu [Dr] {Γ:YU} {f g:Nat} {args:Ug} {ys:SN} {ts:Array TypeId} (hI:Inv num N w0 m0 T β0 σ a w m β ν) (hE:Vj P num) (hK:KOk P num Γ K) (hG:Γ.G w0 m0) (hGb:Γ.Gb<=w0.heap.size) (hT: ∀b,T b->Γ.Gb<=b)
  (ho:o.op= .call {callee:= .value (.func g),args:=ys.toArray,argTypes:=ts}) (hf:num f=some g) (hx:Xl num args ys=true)
  (he:Qi K (.call f args) σ=some (v,σ1)) (h:Aft num N w0 m0 T β0 σ1 a v fun u w'=>next (a.put o.dst u) w'):o.wp P a w next Q:=by
 simp only[Qi]at he;split at he
 ·rename_i hok;cases hk:K f (args.map (val σ.env)) σ.bs with
  | none=>rw[hk]at he;cases he
  | some rb=>
   obtain⟨r,bs'⟩:=rb;rw[hk]at he;injection he with he
   injection he with h1 h2
   subst h1 h2;obtain⟨hl,hv⟩:=hI.vals hx hok;obtain⟨g1,g2,g3⟩:=hI.glob hG hGb hT;refine It hI hE hf (vs:=ys.toArray.map a.eval) ?_ (hK.2 f g _ _ _ _ hf hk hok w m β (Sr ν) (ys.toArray.map a.eval) g1 g2 (by simp[hl]) (fun i c hc=> ?_) hI.boxesOf g3) h
   ·simp[execOp,ho,resolve,Deferred.ofValue,invoke,Act.eval]
   ·obtain⟨y,k1,k2,k3⟩:=hv i c hc;exact⟨a.eval y,by simp[k1],k3⟩
 ·cases he
def Qe7 [Dr] {Γ:YU} {f g:Nat} {args:Ug} {ys:SN} {ts:Array TypeId} (hI:Inv num N w0 m0 T β0 σ a w m β ν) (hE:Vj P num) (hK:KOk P num Γ K) (hG:Γ.G w0 m0) (hGb:Γ.Gb<=w0.heap.size) (hT: ∀b,T b->Γ.Gb<=b)
  (ho:o.op= .call {callee:= .value (.func g),args:=ys.toArray,argTypes:=ts}) (hf:num f=some g) (hx:Xl num args ys=true)
  (he:Qi K (.callq f args) σ=some (v,σ1)) (h:Aft num N w0 m0 T β0 σ1 a v fun u w'=>next (a.put o.dst u) w'):o.wp P a w next Q:=by
 refine Bu hI hE hK hG hGb hT ho hf hx ?_ h;simp only[Qi]at he ⊢;split at he
 ·rename_i hok;rw[Qn hok];cases hk:K f (args.map (val σ.env)) σ.bs with
  | none=>rw[hk]at he;cases he
  | some rb=>
   obtain⟨r,bs'⟩:=rb;rw[hk]at he;simp only[QC]at he;split at he
   ·rename_i hb;have hb2:=OT _ _ hb;injection he with he
    injection he with h1 h2
    subst h1 h2;subst hb2;rfl
   ·cases he
 ·cases he
def Mq:=@List.all_append
def NV {xs ys:Qh} (h:XH (xs ++ ys)=true):XH xs=true/\XH ys=true:=by
 unfold XH at h ⊢;rw[Mq,Qo]at h;exact h
def Qe8 [Dr] {Γ:YU} {x:AO} {x':Operand} {args:Ug} {ys:SN} {ts:Array TypeId} (hI:Inv num N w0 m0 T β0 σ a w m β ν) (hE:Vj P num) (hK:KOk P num Γ K) (hG:Γ.G w0 m0) (hGb:Γ.Gb<=w0.heap.size) (hT: ∀b,T b->Γ.Gb<=b)
  (ho:o.op= .call {callee:= .value x',args:=ys.toArray,argTypes:=ts}) (hxx:okO num x x'=true) (hx:Xl num args ys=true)
  (he:Qi K (.callv x args) σ=some (v,σ1)) (h:Aft num N w0 m0 T β0 σ1 a v fun u w'=>next (a.put o.dst u) w'):o.wp P a w next Q:=by
 simp only[Qi]at he;split at he
 ·rename_i f caps hfv;split at he
  ·rename_i hok;cases hk:K f (args.map (val σ.env)++ caps) σ.bs with
   | none=>rw[hk]at he;cases he
   | some rb=>
    obtain⟨r,bs'⟩:=rb;rw[hk]at he;injection he with he
    injection he with h1 h2
    subst h1 h2;have hr:=(hI.val hxx (by rw[hfv];rfl)).1;rw[hfv]at hr;simp only[Qd]at hr;obtain⟨g,us,hf,hr1,hr2,hr3⟩:=hr;rw[ZQ]at hr3;obtain⟨hl,hv⟩:=hI.vals hx (NV hok).1;obtain⟨g1,g2,g3⟩:=hI.glob hG hGb hT;refine It hI hE hf (vs:=ys.toArray.map a.eval ++ us) ?_ (hK.2 f g _ _ _ _ hf hk hok w m β (Sr ν) (ys.toArray.map a.eval ++ us) g1 g2 (by simp[hl,hr2]) (fun i c hc=> ?_) hI.boxesOf g3) h
    ·simp[execOp,ho,resolve,Deferred.ofValue,invoke,hr1]
    ·by_cases hi:i < (args.map (val σ.env)).length
     ·rw[ZM hi]at hc;obtain⟨y,k1,k2,k3⟩:=hv i c hc;have hi2:i < ys.length:=by rw[<- Dm hx];simpa using hi
      exact⟨a.eval y,by rw[U7 (by simpa using hi2)];simp[k1],k3⟩
     ·rw[YS (by omega)]at hc;obtain⟨u,k1,k2,k3⟩:=hr3 _ c hc;refine⟨u,?_,k3⟩;have hle: (args.map (val σ.env)).length=ys.length:=by rw[Vv,Dm hx]
      rw[hle]at k1 hi;rw[KE (by simpa using hi)];simpa using k1
  ·cases he
 ·rename_i f caps hfv;split at he
  ·rename_i hok;cases hk:K f (caps ++ args.map (val σ.env)) σ.bs with
   | none=>rw[hk]at he;cases he
   | some rb=>
    obtain⟨r,bs'⟩:=rb;rw[hk]at he;injection he with he
    injection he with h1 h2
    subst h1 h2;have hr:=(hI.val hxx (by rw[hfv];rfl)).1;rw[hfv]at hr;simp only[Qd]at hr;obtain⟨g,us,hf,hr1,hr2,hr3⟩:=hr;rw[ZQ]at hr3;obtain⟨hl,hv⟩:=hI.vals hx (NV hok).2;obtain⟨g1,g2,g3⟩:=hI.glob hG hGb hT;refine It hI hE hf (vs:=us ++ ys.toArray.map a.eval) ?_ (hK.2 f g _ _ _ _ hf hk hok w m β (Sr ν) (us ++ ys.toArray.map a.eval) g1 g2 (by simp[hl,hr2]) (fun i c hc=> ?_) hI.boxesOf g3) h
    ·simp[execOp,ho,resolve,Deferred.ofValue,invoke,hr1]
    ·by_cases hi:i < caps.length
     ·rw[ZM hi]at hc;obtain⟨u,k1,k2,k3⟩:=hr3 _ c hc;refine⟨u,?_,k3⟩;rw[Zk]at k1;rw[U7 (by rw[hr2];exact hi)];exact k1
     ·rw[YS (by omega)]at hc;obtain⟨y,k1,k2,k3⟩:=hv _ c hc;refine⟨a.eval y,?_,k3⟩;rw[KE (by rw[hr2];omega),hr2];simp[k1]
  ·cases he
 ·cases he
end
end Go.Am
