/-
  Am10.
-/
import Derived.Test.YtmlbijpbecpjoaaGreatDoorG03
set_option linter.all false
namespace Go.Am
def W2 (P:Program) (t:TypeId) (bytes sz:Nat):Bool:=match P.underlying t with
 | some (.slice e)=>match P.info? e with
  | some i=>decide (i.size=sz) && decide (i.bytes=bytes) && decide (0 < sz) && decide (0 < bytes) && (match i.zero with
   | some z=>decide (z.cells.size=sz)
   | none=>false)
  | none=>false
 | _=>false
def QeP (P:Program) (t:TypeId) (sz:Nat):Bool:=match P.underlying t with
 | some (.slice e)=>match P.info? e with
  | some i=>(match i.zero with
   | some z=>decide (z.cells.size=sz) && z.cells.all (·.oneCell')
   | none=>false)
  | none=>false
 | _=>false
section
variable {P:Program} {num:Nat->Option Nat} {β:List Blk} {w w':World} {m:Nat->Nat} {ν:Own} {N:Nat} {w0:World} {m0:Nat->Nat} {T:Nat->Prop} {β0:List Blk} {σ σ1:St} {a:Act}
 {o:Oper} {next:Act->World->Prop} {Q:Exit->Act->World->Prop} {K:Yo} {v:AV}
def Ps:=@Nat.mod_lt
def Se {ys:Qa} {g:R9} {of sz:Nat} (h:Y5 num β w m ys g of sz) (hsz:0 < sz): ∀j,j < ys.length*sz->∃u,g (of+j)=some u/\u.oneCell'=true:=by
 intro j hj;rw[Xr]at h;have hi:j / sz < ys.length:=by
  rw[Nat.div_lt_iff_lt_mul hsz];exact hj
 obtain⟨h1,h2⟩:=h _ _ (Zv hi);rw[ZQ]at h2;have hr:j % sz < (ys[j / sz]).length:=by rw[h1];exact Ps _ hsz
 obtain⟨u,g1,g2,_⟩:=h2 _ _ (Zv hr);have he:of+j / sz*sz+j % sz=of+j:=by
  have:=Nat.div_add_mod j sz;rw[Nat.mul_comm]at this;omega
 rw[he]at g1;exact⟨u,g1,g2⟩
def Ma {ys:Qa} {g g':R9} {of of' sz:Nat} (h:Y5 num β w m ys g of sz) (hg: ∀j u,j < ys.length*sz->g (of+j)=some u->g' (of'+j)=some u):
  Y5 num β w m ys g' of' sz:=by
 rw[Xr]at h ⊢;intro i x hx;obtain⟨h1,h2⟩:=h i x hx;refine⟨h1,?_⟩;rw[ZQ]at h2 ⊢;intro j c hc;obtain⟨u,g1,g2,g3⟩:=h2 j c hc;refine⟨u,?_,g2,g3⟩;have hil:i < ys.length:=by
  rcases QR i ys.length with h | h
  ·exact h
  ·rw[Q3 h]at hx;cases hx
 have hjl:j < sz:=by
  rcases QR j x.length with h | h
  ·omega
  ·rw[Q3 h]at hc;cases hc
 have hle: (i+1)*sz<=ys.length*sz:=Z5 _ hil;rw[Vw]at hle;have:=hg (i*sz+j) u (by omega) (by rw[<- V6];exact g1);rw[<- V6]at this;exact this
def LB {xs ys:Qa} {g:R9} {of sz:Nat} (h:Y5 num β w m xs g of sz) (k:Y5 num β w m ys g (of+xs.length*sz) sz):Y5 num β w m (xs ++ ys) g of sz:=by
 rw[Xr]at h k ⊢;intro i x hx;by_cases hi:i < xs.length
 ·rw[ZM hi]at hx;exact h i x hx
 ·rw[YS (by omega)]at hx;have:=k _ x hx;rwa[V6,<- ZT,Nat.add_sub_cancel' (by omega)]at this
def UK {t ty e:TypeId} {i:TypeInfo} {base:UG} {n cap c:Nat} {x:UG} (ht:P.underlying t=some (.slice e)) (hi:P.info? e=some i) (hn:n<=cap):
  (Builtin.append_ #[t,t] ty #[.slice base n cap,.slice x 0 c]).run P w= .ok (.slice base n cap) w:=by
 cases base <;> cases x <;> simp[Builtin.append_,run_underlying ht,sizeOf,typeInfo,hi,Builtin.lenOf,Builtin.firstCells,loadCells,loadCellsFrom,hn,storeCells]
def X1 {t ty e e2:TypeId} {i:TypeInfo} {g sLen sCap:Nat} {cur:Ze} {A:Addr} {k c:Nat} {news:ZE} (ht:P.underlying t=some (.slice e)) (hi:P.info? e=some i)
  (hg:w.heap[g]? =some (.cells cur e2 (0,0))) (hl:news.length=k*i.size) (hnews: ∀j u,news[j]? =some u->w.cell? (A.add j)=some u) (h1: ∀u∈news,u.oneCell'=true)
  (hroom:sLen+k<=sCap) (hfit:sLen*i.size+news.length<=cur.size):
  (Builtin.append_ #[t,t] ty #[.slice (some ⟨g,0,none⟩) sLen sCap,.slice (some A) k c]).run P w=
   .ok (.slice (some ⟨g,0,none⟩) (sLen+k) sCap) (w.setRow g (cur.toList.take (sLen*i.size)++ news ++ cur.toList.drop (sLen*i.size+news.length)).toArray):=by
 have hf:=run_firstCells_some (P:=P) w i.size k A k c news hl hnews;have hst:=run_storeCells_at P g (sLen*i.size) e2 news 0 cur w hg (by simpa using hfit) h1;simp only[Ty]at hst;simp[Builtin.append_,run_underlying ht,sizeOf,typeInfo,hi,Builtin.lenOf,hroom,hf,Ym,hst]
def Uq {t ty e:TypeId} {i:TypeInfo} {z:Value} (ht:P.underlying t=some (.slice e)) (hi:P.info? e=some i) (hz:i.zero=some z) {base:UG}
  {A:Addr} {n c:Nat} {news:ZE} (hl:news.length=n*i.size) (hnews: ∀j v,news[j]? =some v->w.cell? (A.add j)=some v)
  (h0:0 < n) (h63: (n:Int)<=9223372036854775807) (h48:n*i.bytes<=281474976710656):
  (Builtin.append_ #[t,t] ty #[.slice base 0 0,.slice (some A) n c]).run P w=
   .ok (.slice (some ⟨w.heap.size,0,none⟩) n (grownCap w n 0 e)) (w.drew.alloc (.cells (news.toArray ++ Builtin.zeroCells z.cells (grownCap w n 0 e - n)) e)):=by
 cases base with
 | none=>exact run_append_nil (P:=P) w t ty e i z ht hi hz A n c news hl hnews h0 h63 h48
 | some b=>
  have h48':Builtin.nextslicecap (0+n) 0*i.bytes<=281474976710656:=by rw[Zk,nextslicecap_zero h0];exact h48
  have:=run_append_grow (P:=P) w t ty e i z ht hi hz b 0 0 [] (by simp) (fun j v h=>by simp at h) A n c news hl hnews (by omega) (by simpa using h63) h48';simpa using this
def NK (P:Program) (t t2:TypeId):Bool:=decide (t=t2) || (match P.underlying t,P.underlying t2 with
 | some (.slice _),some (.slice _)=>true
 | _,_=>false)
def Pv {t t2 e e2:TypeId} (ht:P.underlying t=some (.slice e)) (h2:P.underlying t2=some (.slice e2)) (ty:TypeId) (vs:Ze) (w:World):
  (Builtin.append_ #[t,t2] ty vs).run P w=(Builtin.append_ #[t,t] ty vs).run P w:=by
 unfold Builtin.append_;cases h0:vs[0]? with
 | none=>simp
 | some u=>
  cases h1:vs[1]? with
  | none=>simp
  | some x=>cases u <;> simp[run_underlying ht,run_underlying h2]
def K4:=@Bool.false_or
def V5:=@List.map_toArray
def PX {s' x':Operand} {t t2:TypeId} (ho:o.op= .call {callee:= .builtin .append,args:= #[s',x'],argTypes:= #[t,t2]}) (h2:NK P t t2=true)
  (h: ({o with op:= .call {callee:= .builtin .append,args:= #[s',x'],argTypes:= #[t,t]}}:Oper).wp P a w next Q):o.wp P a w next Q:=by
 unfold NK at h2;by_cases e:t=t2
 ·subst e;have: ({o with op:= .call {callee:= .builtin .append,args:= #[s',x'],argTypes:= #[t,t]}}:Oper)=o:=by rw[<- ho]
  rwa[this]at h
 ·simp only[e,Mu,K4]at h2;split at h2
  ·rename_i e1 e2 g1 g2;unfold Oper.wp at h ⊢;have hr: (execOp a.eval o).run P w=(execOp a.eval ({o with op:= .call {callee:= .builtin .append,args:= #[s',x'],argTypes:= #[t,t]}}:Oper)).run P w:=by
    simp only[execOp,ho,resolve,invoke,builtin,V5,Yf,Wr,Sem.run_bind,Sem.run_pure,Result.andThen_ok,Pv g1 g2]
   rw[hr];exact h
  ·cases h2
def UH:=@List.length_pos_iff
def Rm:=@Array.size_append
def FM:=@Array.append_assoc
def U7:=@Array.getElem?_append_left
def KE:=@Array.getElem?_append_right
def FN:=@Array.empty_append
def FV:=@Nat.min_eq_left
def F1 [Dr] {bytes sz:Nat} {s' x':Operand} {t:TypeId} {σ2:St} {xs ys:Qa} {o2:Bool} {ν1:Own} {u Y:Value} (hu:a.eval s'=u) (hY:a.eval x'=Y)
  (ho:o.op= .call {callee:= .builtin .append,args:= #[s',x'],argTypes:= #[t,t]}) (ht:W2 P t bytes sz=true) (hb: (xs.length+ys.length)*bytes<=140737488355328)
  (hI1:Inv num N w0 m0 T β0 σ2 a w m β ν1) (hr:Qd num β w m (.sl true sz xs) u) (hown:Zz w m ν1 .f (.sl true sz xs) u) (hry:Qd num β w m (.sl o2 sz ys) Y)
  (h:Aft num N w0 m0 T β0 σ2 a (.sl true sz (xs ++ ys)) fun u w'=>next (a.put o.dst u) w'):o.wp P a w next Q:=by
 unfold W2 at ht;split at ht
 ·rename_i e hun;split at ht
  ·rename_i i hi;simp only[Qo,Qv]at ht;obtain⟨⟨⟨⟨rfl,rfl⟩,hsz⟩,hby⟩,hz⟩:=ht;split at hz
   ·rename_i z hzz;simp only[Qv]at hz;have hexec: ∀r w',(Builtin.append_ #[t,t] o.type #[u,Y]).run P w= .ok r w'->(execOp a.eval o).run P w= .ok (.value r) w':=fun r w' hrr=>by
     simp only[execOp,ho,resolve,invoke,builtin,V5,Yf,Wr,hu,hY,Sem.run_bind,Sem.run_pure,Result.andThen_ok,hrr]
    have hsmall:xs.length+ys.length<=140737488355328:=Uu (Oz _ hby) hb;have hr':=hr;simp only[Qd]at hr' hry;obtain⟨A,len,cap,rfl,g2,g3,g4,g5⟩:=hr';obtain⟨B,len2,cap2,rfl,k2,k3,k4,k5⟩:=hry;by_cases hy0:ys=[]
    ·subst hy0;simp only[Yz]at k2;subst k2;refine Qr (hexec _ _ (UK hun hi g3)) (h _ w m β ν1 hI1 ((QT rfl).2 ⟨by simpa using hr,by simpa using hown⟩))
    ·have hm:0 < ys.length:=UH.2 hy0;rcases k5 with k5 | ⟨b2,of2,rfl,k5⟩
     ·exact absurd k5 hy0
     have hcells:=Se k5 hsz
     let news:ZE:=(List.range (ys.length*i.size)).map fun j=>(w.cell? ⟨b2,of2+j,none⟩).getD undef
     have hnl:news.length=len2*i.size:=by simp[news,k2]
     have hget: ∀j,j < ys.length*i.size->∃u,news[j]? =some u/\w.cell? ⟨b2,of2+j,none⟩=some u/\hg w m b2 (of2+j)=some u/\u.oneCell'=true:=fun j hj=>by
      obtain⟨u,g1,g2⟩:=hcells j hj;have:=(Wz g1).2.1;exact⟨u,by simp[news,hj,this],this,g1,g2⟩
     have hlt: ∀{j:Nat} {u:Value},news[j]? =some u->j < ys.length*i.size:=fun {j u} hj=>by
      rcases QR j news.length with h | h
      ·simpa[news]using h
      ·rw[Q3 h]at hj;cases hj
     have hnews: ∀j u,news[j]? =some u->w.cell? ((⟨b2,of2,none⟩:Addr).add j)=some u:=fun j u hj=>by
      obtain⟨u2,p1,p2,_⟩:=hget j (hlt hj);rw[hj]at p1;injection p1 with p1
      subst p1;rw[Ym];exact p2
     have hone: ∀u∈news,u.oneCell'=true:=fun u hu2=>by
      obtain⟨j,hj⟩:=Sk hu2;obtain⟨u2,p1,_,_,p2⟩:=hget j (hlt hj);rw[hj]at p1;injection p1 with p1
      subst p1;exact p2
     have fresh: ∀(olds:ZE) (capN:Nat),olds.length=xs.length*i.size->(∀j u,j < xs.length*i.size->(∃b o1,A=some ⟨b,o1,none⟩/\hg w m b (o1+j)=some u)->olds[j]? =some u)->
       xs.length+ys.length<=capN->capN<=maxLen->
       next (a.put o.dst (.slice (some ⟨w.heap.size,0,none⟩) (xs.length+ys.length) capN)) (w.drew.alloc (.cells (olds.toArray ++ news.toArray ++ Builtin.zeroCells z.cells (capN - (xs.length+ys.length))) e)):=by
      intro olds capN ho1 ho2 hc1 hc2;obtain⟨rows,hrows⟩: ∃rows:Ze,rows=olds.toArray ++ news.toArray ++ Builtin.zeroCells z.cells (capN - (xs.length+ys.length)):=⟨_,rfl⟩;rw[<- hrows];have hrsz:rows.size=capN*i.size:=by
       rw[hrows];simp only[Rm,WD,size_zeroCells,hz,ho1,hnl,<- k2];rw[<- ZT,<- ZT];congr 1;omega
      have hI2:=(hI1.drew).fresh rows e ((xs.length+ys.length)*i.size) .f;have hgr: ∀j u,j < (xs.length+ys.length)*i.size->rows[j]? =some u->hg (w.drew.alloc (.cells rows e)) (m1 m w.drew.heap.size ((xs.length+ys.length)*i.size)) w.heap.size (0+j)=some u:=fun j u hj hru=>by
       have hh: (w.drew.alloc (.cells rows e)).heap[w.heap.size]? =some (.cells rows e (0,0)):=heap_alloc_new w.drew _;unfold hg;rw[Zk,Qn (by simpa[m1]using hj),cell_of_row _ _ _ rows e (0,0) hh];exact hru
      have hle:Le w m (w.drew.alloc (.cells rows e)) (m1 m w.drew.heap.size ((xs.length+ys.length)*i.size)):=(ZO.alloc (fun _=>False) w.drew m rows e _).le;refine h _ _ _ β _ hI2 ((QT rfl).2 ⟨?_,.inr ⟨w.heap.size,capN,rows,e,by simp,heap_alloc_new w.drew _,hrsz,by simp[m1],by simp[Yb]⟩⟩);simp only[Qd];refine⟨_,_,_,rfl,by simp,hc1,hc2,.inr ⟨w.heap.size,0,rfl,LB ?_ ?_⟩⟩
      ·rcases g5 with g5 | ⟨b,o1,rfl,g5⟩
       ·rw[g5];simp only[Y5]
       ·refine UP (Ge.refl β) hle _ _ _ _ _ (fun _ _ h=>h) (Ma (g':=hg (w.drew.alloc (.cells rows e)) (m1 m w.drew.heap.size ((xs.length+ys.length)*i.size)) w.heap.size) (of':=0) g5 fun j u hj hju=> ?_);refine hgr j u (by rw[ZT];omega) ?_;rw[hrows,FM,U7 (by simpa[ho1]using hj)];simpa using ho2 j u hj ⟨b,o1,rfl,hju⟩
      ·refine UP (Ge.refl β) hle _ _ _ _ _ (fun _ _ h=>h) (Ma (g':=hg (w.drew.alloc (.cells rows e)) (m1 m w.drew.heap.size ((xs.length+ys.length)*i.size)) w.heap.size) (of':=0+xs.length*i.size) k5 fun j u hj hju=> ?_);rw[V6];refine hgr (xs.length*i.size+j) u (by rw[ZT];omega) ?_;rw[hrows,U7 (by simp[ho1,hnl];rw[<- k2];omega),KE (by simp[ho1])];obtain⟨u2,p1,_,p3,_⟩:=hget j hj;rw[hju]at p3;injection p3 with p3
       subst p3;simpa[ho1]using p1
     simp only[Zz]at hown;rcases hown with⟨A2,n2,hA2⟩ | ⟨b,capO,cur,e2,hA2,q1,q2,q3,q4⟩
     ·injection hA2 with hA2 hA3 hA4
      subst hA2;by_cases hx0:xs=[]
      case neg=>
       rcases g5 with g5 | ⟨b,o1,rfl,g5⟩
       ·exact absurd g5 hx0
       have hcellx:=Se g5 hsz
       let olds:ZE:=(List.range (xs.length*i.size)).map fun j=>(w.cell? ⟨b,o1+j,none⟩).getD undef
       have hol:olds.length=xs.length*i.size:=by simp[olds]
       have hgetx: ∀j,j < xs.length*i.size->∃u,olds[j]? =some u/\w.cell? ⟨b,o1+j,none⟩=some u/\hg w m b (o1+j)=some u:=fun j hj=>by
        obtain⟨u,g1,g2⟩:=hcellx j hj;have:=(Wz g1).2.1;exact⟨u,by simp[olds,hj,this],this,g1⟩
       have holds: ∀j u,olds[j]? =some u->w.cell? ((⟨b,o1,none⟩:Addr).add j)=some u:=fun j u hj=>by
        have hjl:j < xs.length*i.size:=by
         rcases QR j olds.length with h | h
         ·rwa[hol]at h
         ·rw[Q3 h]at hj;cases hj
        obtain⟨u2,p1,p2,_⟩:=hgetx j hjl;rw[hj]at p1;injection p1 with p1
        subst p1;rw[Ym];exact p2
       have hrun:=run_append_grow (P:=P) w t o.type e i z hun hi hzz ⟨b,o1,none⟩ xs.length cap _ hol holds ⟨b2,of2,none⟩ len2 cap2 news hnl hnews (by omega) (by omega) (growslice_fits (by omega) (by rw[<- k2];exact hb));have hf:=fresh olds (grownCap w (xs.length+len2) cap e) hol (fun j u hj hju=>by
        obtain⟨b3,o3,hA5,hju⟩:=hju;injection hA5 with hA5
        injection hA5 with hA5 hA6
        subst hA5 hA6;obtain⟨u2,p1,_,p3⟩:=hgetx j hj;rw[hju]at p3;injection p3 with p3
        subst p3;exact p1) (by rw[k2];exact grownCap_ge w _ cap e) (grownCap_le_maxLen w _ cap e (by unfold maxLen;omega))
       rw[<- k2]at hrun hf hexec;rw[<- g2]at hexec;exact Qr (hexec _ _ hrun) hf
      have hlen0:xs.length=0:=by rw[hx0];rfl
      have hn2:n2=0:=by omega
      subst hn2;subst hA3 hA4;have hrun:=Uq (P:=P) (w:=w) (ty:=o.type) (base:=A) (A:=⟨b2,of2,none⟩) (n:=len2) (c:=cap2) hun hi hzz hnl hnews (by omega) (by omega) (by
       have hb2:=hb;rw[hx0,k2]at hb2;simp only[Yz,Zk]at hb2;omega)
      have hf:=fresh [] (grownCap w len2 0 e) (by rw[hx0];simp) (fun j u hj _=>by rw[hx0]at hj;simp at hj) (by rw[hx0,k2,Yz,Zk];exact grownCap_ge w len2 0 e)
       (grownCap_le_maxLen w len2 0 e (by unfold maxLen;omega))
      rw[hx0,k2]at hf;simp only[Yz,Zk,FN]at hf;exact Qr (hexec _ _ hrun) hf
     ·injection hA2 with hA2 hA3 hA4
      subst hA2 hA3 hA4;have hro: ∀j u,j < xs.length*i.size->hg w m b (0+j)=some u->cur[j]? =some u:=fun j u hj hju=>by
       rw[Zk]at hju;have:=(Wz hju).2.1;rwa[cell_of_row w b j cur e2 (0,0) q1]at this
      by_cases hroom:xs.length+ys.length<=cap
      ·have hfit:xs.length*i.size+news.length<=cur.size:=by rw[hnl,q2,<- k2,<- ZT];exact Z5 _ hroom
       have hrun:=X1 (P:=P) (w:=w) (ty:=o.type) (c:=cap2) hun hi q1 hnl hnews hone (by rw[<- k2];exact hroom) hfit;have hfit2:xs.length*i.size+news.length<=cur.toList.length:=by simpa using hfit
       have hI2:=hI1.setFloat (cur':=(cur.toList.take (xs.length*i.size)++ news ++ cur.toList.drop (xs.length*i.size+news.length)).toArray) (k:=(xs.length+ys.length)*i.size) q1 q4
        (fun j u hj hcu=>by
         rw[S8,Wl _ _ _ hfit2,Qn (by omega)];simpa using hcu) (by rw[q3];exact Z5 _ (by omega))
       have hS:=ZO.setRow (m:=m) (cur':=(cur.toList.take (xs.length*i.size)++ news ++ cur.toList.drop (xs.length*i.size+news.length)).toArray) (k:=(xs.length+ys.length)*i.size) q1
        (fun j u hj hcu=>by
         rw[S8,Wl _ _ _ hfit2,Qn (by omega)];simpa using hcu) (by rw[q3];exact Z5 _ (by omega))
       rw[<- k2]at hrun hexec;refine Qr (hexec _ _ hrun) (h _ _ _ β _ hI2 ((QT rfl).2 ⟨?_,.inr ⟨b,cap,_,e2,by simp,setRow_heap w b cur _ e2 (0,0) q1,?_,by simp[m1],q4⟩⟩))
       ·simp only[Qd];refine⟨_,_,_,rfl,by simp,hroom,g4,.inr ⟨b,0,rfl,LB ?_ ?_⟩⟩
        ·rcases g5 with g5 | ⟨b3,o1,hA5,g5⟩
         ·rw[g5];simp only[Y5]
         ·injection hA5 with hA5
          injection hA5 with hA5 hA6
          subst hA5 hA6;exact UP (Ge.refl β) hS.le _ _ _ _ _ (hS.le b) g5
        ·refine UP (Ge.refl β) hS.le _ _ _ _ _ (fun _ _ h=>h) (Ma (of':=0+xs.length*i.size) k5 fun j u hj hju=> ?_);unfold hg;rw[Zk,Qn (by simp[m1,ZT];omega),cell_setRow_same w b _ cur _ e2 (0,0) q1,S8,Wl _ _ _ hfit2,Qm (by omega),Qn (by rw[hnl,<- k2];omega)];obtain⟨u2,p1,_,p3,_⟩:=hget j hj;rw[hju]at p3;injection p3 with p3
         subst p3;rw[Oy];exact p1
       ·rw[WD,Vh _ _ _ hfit2];simpa using q2
      ·have holds: ∀j u,(cur.toList.take (xs.length*i.size))[j]? =some u->w.cell? ((⟨b,0,none⟩:Addr).add j)=some u:=fun j u hj=>by
        rw[Ym,Zk,cell_of_row w b j cur e2 (0,0) q1];rw[VJ]at hj;split at hj
        ·simpa using hj
        ·cases hj
       have hol: (cur.toList.take (xs.length*i.size)).length=xs.length*i.size:=by
        have hle:xs.length*i.size<=cur.toList.length:=by simpa[q2]using Z5 i.size g3
        rw[Xf];exact FV hle
       have hrun:=run_append_grow (P:=P) w t o.type e i z hun hi hzz ⟨b,0,none⟩ xs.length cap _ hol holds ⟨b2,of2,none⟩ len2 cap2 news hnl hnews (by omega) (by omega) (growslice_fits (by omega) (by rw[<- k2];exact hb));have hf:=fresh (cur.toList.take (xs.length*i.size)) (grownCap w (xs.length+len2) cap e) hol (fun j u hj hju=>by
        obtain⟨b3,o1,hA5,hju⟩:=hju;injection hA5 with hA5
        injection hA5 with hA5 hA6
        subst hA5 hA6;rw[WB hj];simpa using hro j u hj hju) (by rw[k2];exact grownCap_ge w _ cap e) (grownCap_le_maxLen w _ cap e (by unfold maxLen;omega))
       rw[<- k2]at hrun hf hexec;exact Qr (hexec _ _ hrun) hf
   ·cases hz
  ·cases ht
 ·cases ht
def QV:=@Prod.mk.injEq
def Qm3 [Dr] {bytes sz:Nat} {s x:AO} {s' x':Operand} {t:TypeId} (hI:Inv num N w0 m0 T β0 σ a w m β ν) (ho:o.op= .call {callee:= .builtin .append,args:= #[s',x'],argTypes:= #[t,t]})
  (ht:W2 P t bytes sz=true) (hs:okO num s s'=true) (hx:okO num x x'=true)
  (he:Qi K (.app bytes sz s x) σ=some (v,σ1)) (h:Aft num N w0 m0 T β0 σ1 a v fun u w'=>next (a.put o.dst u) w'):o.wp P a w next Q:=by
 have hsrc: ∃ρ xs ys o2 ν1 u,Qi K (.app bytes sz s x) σ=some (.sl true sz (xs ++ ys),{σ with env:=ρ})/\(xs.length+ys.length)*bytes<=140737488355328/\val σ.env x= .sl o2 sz ys/\
   a.eval s'=u/\Inv num N w0 m0 T β0 {σ with env:=ρ} a w m β ν1/\Qd num β w m (.sl true sz xs) u/\Zz w m ν1 .f (.sl true sz xs) u:=by
  cases s with
  | t n=>
   simp only[Qi]at he;split at he
   ·rename_i sz1 xs ρ o2 sz2 ys e1 e2;simp only[QV]at e1;obtain⟨e1,rfl⟩:=e1;split at he
    ·rename_i hc;obtain⟨rfl,rfl,hb⟩:=hc;unfold okO at hs;split at hs
     ·rename_i n2 t2 hn2;injection hn2 with hn2
      subst hn2;simp only[Qv]at hs;subst hs;obtain⟨_,h2⟩:=hI.at_ (n:=n) (by rw[e1];simp);have h3:=hI.slots n _ h2;rw[e1]at h3;obtain⟨h3,h4⟩:=h3;refine⟨_,xs,ys,o2,_,a.eval (.tmp n),by simp only[Qi,e1,e2];simp[hb],hb,e2,rfl,hI.takeSlot n,h3,?_⟩;have:=VX (θ:=mv (.s n) .f) h4;rwa[show mv (.s n) .f (.s n)= .f by simp[mv]]at this
     ·rename_i hn2;cases hn2
     ·rename_i hn2;cases hn2
     ·cases hs
    ·cases he
   ·cases he
  | c vc=>
   simp only[Qi]at he;split at he
   ·rename_i sz1 xs ρ o2 sz2 ys e1 e2;simp only[QV]at e1;obtain⟨rfl,rfl⟩:=e1;split at he
    ·rename_i hc;obtain⟨rfl,rfl,hb⟩:=hc;have h1:=hI.val hs (show(val σ.env (.c _)).ok=true from rfl);exact⟨_,xs,ys,o2,ν,a.eval s',by simp only[Qi,e2];simp[hb],hb,e2,rfl,hI,h1.1,h1.2 _⟩
    ·cases he
   ·cases he
 obtain⟨ρ,xs,ys,o2,ν1,u,hex,hb,hvx,hu,hI1,hr,hown⟩:=hsrc;rw[hex]at he;injection he with he
 injection he with h1 h2
 subst h1 h2;have hry:=(hI.val hx (by rw[hvx];rfl)).1;rw[hvx]at hry;exact F1 hu rfl ho ht hb hI1 hr hown hry h
def QcZ [Dr] {n sz:Nat} (hI:Inv num N w0 m0 T β0 σ a w m β ν) (ho:o.op= .move (.tmp n)\/o.op= .assign (.tmp n))
  (he:Qi K (.frz n sz) σ=some (v,σ1)) (h:Aft num N w0 m0 T β0 σ1 a v fun u w'=>next (a.put o.dst u) w'):o.wp P a w next Q:=by
 simp only[Qi]at he;obtain⟨m',ν',h1,h2,h3,h4,h5⟩:=hI.frz he;have hrun: (execOp a.eval o).run P w= .ok (.value (a.eval (.tmp n))) w:=by
  rcases ho with ho | ho <;> simp[execOp,ho]
 exact Qr hrun (h _ w m' β ν' h1 ((QT h3).2 ⟨h4,h5⟩))
def Qib [Dr] {bytes sz n:Nat} {x:AO} {x':Operand} {t:TypeId} (hI:Inv num N w0 m0 T β0 σ a w m β ν) (ho:o.op= .call {callee:= .builtin .append,args:= #[.tmp n,x'],argTypes:= #[t,t]})
  (ht:W2 P t bytes sz=true) (hx:okO num x x'=true)
  (he:Qi K (.appz bytes sz n x) σ=some (v,σ1)) (h:Aft num N w0 m0 T β0 σ1 a v fun u w'=>next (a.put o.dst u) w'):o.wp P a w next Q:=by
 simp only[Qi]at he;split at he
 ·rename_i sz1 xs s o2 sz2 ys hf hv;split at he
  ·rename_i hc;obtain⟨rfl,hb⟩:=hc;injection he with he
   injection he with e1 e2
   subst e1 e2;have hry:=(hI.val hx (by rw[hv];rfl)).1;rw[hv]at hry;obtain⟨m',ν',h1,h2,h3,h4,h5⟩:=hI.frz hf;have hsz:sz1=sz2:=by
    unfold Yk at hf;split at hf
    ·split at hf
     ·rename_i hc;split at hf
      ·injection hf with hf;injection hf with hf;injection hf with _ hf;exact hf.symm
      ·rename_i id _ _ _ _ _;cases hbs:σ.bs[id]? with
       | none=>rw[hbs]at hf;cases hf
       | some cs=>
        rw[hbs]at hf;simp only[QC]at hf;split at hf
        ·injection hf with hf;injection hf with hf;injection hf with _ hf;exact hf.symm
        ·cases hf
     ·split at hf
      ·injection hf with hf;injection hf with hf;injection hf with _ hf;exact hf.symm
      ·cases hf
    ·cases hf
   subst hsz;exact F1 rfl rfl ho ht hb h1 h4 h5 (Zc (Ge.refl β) h2 _ _ hry) h
  ·cases he
 ·cases he
def Qcz:=@Array.eq_empty_of_size_eq_zero
def QiB [Dr] {t:TypeId} {sz:Nat} (hI:Inv num N w0 m0 T β0 σ a w m β ν) (ho:o.op= .buildSlice t 0 #[])
  (ht:RM P t sz 0=true)
  (he:Qi K .zlit σ=some (v,σ1)) (h:Aft num N w0 m0 T β0 σ1 a v fun u w'=>next (a.put o.dst u) w'):o.wp P a w next Q:=by
 simp only[Qi]at he;injection he with he
 injection he with h1 h2
 subst h1 h2;unfold RM at ht;split at ht
 ·rename_i e hu;simp only[Qo,Qv]at ht;obtain⟨⟨⟨ht1,ht2⟩,ht3⟩,ht4⟩:=ht;refine Qr (u:= .slice (some ⟨w.heap.size,0,none⟩) 0 0) (w':=w.alloc (.cells #[] e)) ?_ ?_
  ·simp only[execOp,ho,Instr.buildSlice,Sem.run_bind,run_underlying hu,Result.andThen_ok,ZH ht1];have hz:Array.map (fun _=>(default:Value)) (Array.range 0)= #[]:=Qcz (by simp);simp[newRow,Instr.fill,hz]
  ·refine h _ _ _ β _ (hI.fresh #[] e 0 .f) ((QT rfl).2 ⟨?_,trivial⟩);simp only[Qd];exact⟨_,0,rfl,ZJ _,by unfold maxLen;omega,.inl (by simp)⟩
 ·cases ht
def Qe6 [Dr] {bytes sz:Nat} {s x:AO} {s' x':Operand} {t:TypeId} (hI:Inv num N w0 m0 T β0 σ a w m β ν) (ho:o.op= .call {callee:= .builtin .append,args:= #[s',x'],argTypes:= #[t,t]})
  (ht:W2 P t bytes sz=true) (hs:okO num s s'=true) (hx:okO num x x'=true)
  (he:Qi K (.appzz s x) σ=some (v,σ1)) (h:Aft num N w0 m0 T β0 σ1 a v fun u w'=>next (a.put o.dst u) w'):o.wp P a w next Q:=by
 simp only[Qi]at he;split at he
 ·rename_i i1 i2 o2 sz2 hA hB;injection he with he
  injection he with h1 h2
  subst h1 h2;have g1:=(hI.val hs (by rw[hA];rfl)).1;rw[hA]at g1;simp only[Qd]at g1;obtain⟨A,cap,hu,g3,g4,g5⟩:=g1;have hcap:cap=0:=by
   rcases g5 with g5 | ⟨_,_,_,_,g6⟩
   ·exact g5.2.1
   ·omega
  subst hcap;have k1:=(hI.val hx (by rw[hB];rfl)).1;rw[hB]at k1;simp only[Qd]at k1;obtain⟨B,len2,cap2,hB2,k2,k3,k4,k5⟩:=k1;simp only[Yz]at k2;subst k2;unfold W2 at ht;split at ht
  ·rename_i e hun;split at ht
   ·rename_i i hi;have hexec: (execOp a.eval o).run P w= .ok (.value (.slice A 0 0)) w:=by
     simp only[execOp,ho,resolve,invoke,builtin,V5,Yf,Wr,hu,hB2,Sem.run_bind,Sem.run_pure,Result.andThen_ok,UK hun hi g3]
    refine Qr hexec (h.same hI rfl ?_ trivial);simp only[Qd];exact⟨A,0,rfl,g3,g4,.inl (by simp)⟩
   ·cases ht
  ·cases ht
 ·cases he
def Tw:=@List.flatten_cons
def UI:=@List.map_append
def Rk: ∀{ys:Qa} {g:R9} {of sz:Nat},Y5 num β w m ys g of sz->∀(i:Nat) (c:AV),(ys.flatten.map AV.strip)[i]? =some c->
  ∃u,g (of+i)=some u/\u.oneCell'=true/\Qd num β w m c u/\∀p w' m' ν',Zz w' m' ν' p c u
 | [],_,_,_,_,i,c,hc=>by simp at hc
 | y:: ys,g,of,sz,h,i,c,hc=>by
  simp only[Y5]at h;obtain⟨h1,h2,h3⟩:=h;rw[Tw,UI]at hc;by_cases hi:i < y.length
  ·rw[ZM (by simpa using hi)]at hc;obtain⟨d,hd,rfl⟩:=Zn hc;rw[ZQ]at h2;obtain⟨u,g1,g2,g3⟩:=h2 i d hd;exact⟨u,g1,g2,by rw[QU];exact g3,fun p w' m' ν'=>Yp _ _ _⟩
  ·rw[YS (by simpa using hi),Vv]at hc;obtain⟨u,g1,g2⟩:=Rk h3 _ c hc;exact⟨u,by rw[show of+i=of+sz+ (i - y.length) by omega];exact g1,g2⟩
def V1: ∀{ys:Qa} {g:R9} {of sz:Nat},Y5 num β w m ys g of sz->(ys.flatten.map AV.strip).length=ys.length*sz
 | [],_,_,_,_=>by simp
 | y:: ys,g,of,sz,h=>by
  simp only[Y5]at h;have:=V1 h.2.2;rw[Vv]at this;rw[Vv,Tw,Zo,this,h.1,ZL,Vw];omega
def QcE [Dr] {bytes sz:Nat} {s' x':Operand} {t:TypeId} {σ2:St} {ys:Qa} {o2:Bool} {ν1:Own} {u Y:Value} (hu:a.eval s'=u) (hY:a.eval x'=Y)
  (ho:o.op= .call {callee:= .builtin .append,args:= #[s',x'],argTypes:= #[t,t]}) (ht:W2 P t bytes sz=true) (hb:ys.length*bytes<=140737488355328)
  (hI1:Inv num N w0 m0 T β0 σ2 a w m β ν1) (hr:Qd num β w m (.sl true sz []) u) (hown:Zz w m ν1 .f (.sl true sz []) u) (hry:Qd num β w m (.sl o2 sz ys) Y) (hy0:ys.length≠0)
  (h:Aft num N w0 m0 T β0 {σ2 with bs:=σ2.bs ++ [ys.flatten.map AV.strip]} a (.gs σ2.bs.length 0 sz ys.length) fun u w'=>next (a.put o.dst u) w'):o.wp P a w next Q:=by
 unfold W2 at ht;split at ht
 ·rename_i e hun;split at ht
  ·rename_i i hi;simp only[Qo,Qv]at ht;obtain⟨⟨⟨⟨rfl,rfl⟩,hsz⟩,hby⟩,hz⟩:=ht;split at hz
   ·rename_i z hzz;simp only[Qv]at hz;have hexec: ∀r w',(Builtin.append_ #[t,t] o.type #[u,Y]).run P w= .ok r w'->(execOp a.eval o).run P w= .ok (.value r) w':=fun r w' hrr=>by
     simp only[execOp,ho,resolve,invoke,builtin,V5,Yf,Wr,hu,hY,Sem.run_bind,Sem.run_pure,Result.andThen_ok,hrr]
    have hm:0 < ys.length:=Mk hy0;have hsmall:ys.length<=140737488355328:=Uu (Oz _ hby) hb;simp only[Qd]at hr hry;obtain⟨A,len,cap,rfl,g2,g3,g4,g5⟩:=hr;simp only[Yz]at g2;subst g2;obtain⟨B,len2,cap2,rfl,k2,k3,k4,k5⟩:=hry;rcases k5 with k5 | ⟨b2,of2,rfl,k5⟩
    ·rw[k5]at hm;cases hm
    have hcells:=Se k5 hsz
    let news:ZE:=(List.range (ys.length*i.size)).map fun j=>(w.cell? ⟨b2,of2+j,none⟩).getD undef
    have hnl:news.length=len2*i.size:=by simp[news,k2]
    have hget: ∀j,j < ys.length*i.size->∃u,news[j]? =some u/\w.cell? ⟨b2,of2+j,none⟩=some u/\hg w m b2 (of2+j)=some u/\u.oneCell'=true:=fun j hj=>by
     obtain⟨u,g1,g2⟩:=hcells j hj;have:=(Wz g1).2.1;exact⟨u,by simp[news,hj,this],this,g1,g2⟩
    have hlt: ∀{j:Nat} {u:Value},news[j]? =some u->j < ys.length*i.size:=fun {j u} hj=>by
     rcases QR j news.length with h | h
     ·simpa[news]using h
     ·rw[Q3 h]at hj;cases hj
    have hnews: ∀j u,news[j]? =some u->w.cell? ((⟨b2,of2,none⟩:Addr).add j)=some u:=fun j u hj=>by
     obtain⟨u2,p1,p2,_⟩:=hget j (hlt hj);rw[hj]at p1;injection p1 with p1
     subst p1;rw[Ym];exact p2
    have hone: ∀u∈news,u.oneCell'=true:=fun u hu2=>by
     obtain⟨j,hj⟩:=Sk hu2;obtain⟨u2,p1,_,_,p2⟩:=hget j (hlt hj);rw[hj]at p1;injection p1 with p1
     subst p1;exact p2
    have hfl:=V1 k5;have hbox: ∀(i0:Nat) (c:AV),(ys.flatten.map AV.strip)[i0]? =some c->∃u,news[i0]? =some u/\u.oneCell'=true/\Qd num β w m c u/\∀p w' m' ν',Zz w' m' ν' p c u:=fun i0 c hc=>by
     obtain⟨u,q1,q2,q3⟩:=Rk k5 i0 c hc;have hi0:i0 < ys.length*i.size:=by
      rw[<- hfl];rcases QR i0 (ys.flatten.map AV.strip).length with h | h
      ·exact h
      ·rw[Q3 h]at hc;cases hc
     obtain⟨u2,p1,_,p3,_⟩:=hget i0 hi0;rw[q1]at p3;injection p3 with p3
     subst p3;exact⟨u,p1,q2,q3⟩
    have fresh: ∀(capN:Nat),ys.length<=capN->capN<=maxLen->
      next (a.put o.dst (.slice (some ⟨w.heap.size,0,none⟩) ys.length capN)) (w.drew.alloc (.cells (news.toArray ++ Builtin.zeroCells z.cells (capN - ys.length)) e)):=by
     intro capN hc1 hc2;obtain⟨rows,hrows⟩: ∃rows:Ze,rows=news.toArray ++ Builtin.zeroCells z.cells (capN - ys.length):=⟨_,rfl⟩;rw[<- hrows];have hrsz:rows.size=capN*i.size:=by
      rw[hrows];simp only[Rm,WD,size_zeroCells,hz,hnl,<- k2];rw[<- ZT];congr 1;omega
     have hI2:=(hI1.drew).fresh rows e 0 .f;have hI3:=hI2.toBox (b:=w.heap.size) (cur:=rows) (e:=e) (cs:=ys.flatten.map AV.strip) (heap_alloc_new w.drew _) (by simp[Yb]) (by simp[m1]) (by rw[hfl,hrsz];exact Z5 _ hc1)
      fun i0 c hc=>by
       obtain⟨u,q1,q2,q3,q4⟩:=hbox i0 c hc;have hle:Le w m (w.drew.alloc (.cells rows e)) (m1 m w.drew.heap.size 0):=(ZO.alloc (fun _=>False) w.drew m rows e 0).le;refine⟨u,?_,q2,Zc (Ge.refl β) hle c u q3,q4⟩;have hi0:i0 < news.length:=by
        rcases QR i0 news.length with h | h
        ·exact h
        ·rw[Q3 h]at q1;cases q1
       rw[hrows,U7 (by simpa using hi0)];simpa using q1
     refine h _ _ _ _ _ hI3 ((QT rfl).2 ⟨?_,trivial⟩);simp only[Qd];exact⟨_,capN,rfl,hc1,hc2,.inr ⟨⟨w.heap.size,rows.size,false,e⟩,⟨by rw[<- hI1.blen];simp,rfl⟩,rfl,by simp[hrsz],hsz⟩⟩
    simp only[Zz]at hown;rcases hown with⟨A2,n2,hA2⟩ | ⟨b,capO,cur,e2,hA2,q1,q2,q3,q4⟩
    ·injection hA2 with hA2 hA3 hA4
     subst hA2;have hn2:n2=0:=by omega
     subst hn2;subst hA4;have hrun:=Uq (P:=P) (w:=w) (ty:=o.type) (base:=A) (A:=⟨b2,of2,none⟩) (n:=len2) (c:=cap2) hun hi hzz hnl hnews (by omega) (by omega) (by
      have hb2:=hb;rw[k2]at hb2;omega)
     have hf:=fresh (grownCap w len2 0 e) (by rw[k2];exact grownCap_ge w len2 0 e) (grownCap_le_maxLen w len2 0 e (by unfold maxLen;omega));rw[k2]at hf;exact Qr (hexec _ _ hrun) hf
    ·injection hA2 with hA2 hA3 hA4
     subst hA2 hA4;simp only[Yz,Nat.zero_mul]at q3;by_cases hroom:ys.length<=cap
     ·have hfit:0*i.size+news.length<=cur.size:=by rw[hnl,q2,<- k2,Nat.zero_mul,Zk];exact Z5 _ hroom
      have hrun:=X1 (P:=P) (w:=w) (ty:=o.type) (sLen:=0) (sCap:=cap) (k:=len2) (c:=cap2) hun hi q1 hnl hnews hone (by omega) hfit;have hfit2:0*i.size+news.length<=cur.toList.length:=by simpa using hfit
      have hS:=hI1.setFloat (cur':=(cur.toList.take (0*i.size)++ news ++ cur.toList.drop (0*i.size+news.length)).toArray) (k:=0) q1 q4 (fun j u hj hcu=>by omega) (by omega);have hm1:m1 m b 0=m:=UC q3;rw[hm1]at hS;have hle:=(ZO.setRow (m:=m) (cur':=(cur.toList.take (0*i.size)++ news ++ cur.toList.drop (0*i.size+news.length)).toArray) (k:=0) q1 (fun j u hj hcu=>by omega) (by omega)).le;rw[hm1]at hle;have hrs: (cur.toList.take (0*i.size)++ news ++ cur.toList.drop (0*i.size+news.length)).toArray.size=cap*i.size:=by
       rw[WD,Vh _ _ _ hfit2];simpa using q2
      have hI3:=hS.toBox (b:=b) (e:=e2) (cs:=ys.flatten.map AV.strip) (setRow_heap w b cur _ e2 (0,0) q1) q4 q3 (by rw[hfl,hrs];exact Z5 _ hroom)
       fun i0 c hc=>by
        obtain⟨u,r1,r2,r3,r4⟩:=hbox i0 c hc;refine⟨u,?_,r2,Zc (Ge.refl β) hle c u r3,r4⟩;have hi0:i0 < news.length:=by
         rcases QR i0 news.length with h | h
         ·exact h
         ·rw[Q3 h]at r1;cases r1
        rw[S8,Wl _ _ _ hfit2,Qm (by omega),Qn (by omega)];simpa using r1
      rw[<- k2]at hrun;rw[Zk]at hrun;refine Qr (hexec _ _ (by rw[<- k2];exact hrun)) (h _ _ _ _ _ hI3 ((QT rfl).2 ⟨?_,trivial⟩));simp only[Qd];exact⟨_,cap,rfl,hroom,g4,.inr ⟨_,⟨by rw[<- hI1.blen];exact YZ,rfl⟩,rfl,by simp only[hrs];omega,hsz⟩⟩
     ·have hrun:=run_append_grow (P:=P) w t o.type e i z hun hi hzz ⟨b,0,none⟩ 0 cap [] (by simp) (fun j u hj=>by simp at hj) ⟨b2,of2,none⟩ len2 cap2 news hnl hnews (by omega) (by omega) (growslice_fits (by omega) (by rw[<- k2,Zk];exact hb));have hf:=fresh (grownCap w (0+len2) cap e) (by rw[k2];have:=grownCap_ge w (0+len2) cap e;omega) (grownCap_le_maxLen w _ cap e (by unfold maxLen;omega));rw[k2]at hf;simp only[Zk,FN]at hrun hf;exact Qr (hexec _ _ hrun) hf
   ·cases hz
  ·cases ht
 ·cases ht
def Qh9 [Dr] {bytes sz:Nat} {s x:AO} {s' x':Operand} {t:TypeId} (hI:Inv num N w0 m0 T β0 σ a w m β ν) (ho:o.op= .call {callee:= .builtin .append,args:= #[s',x'],argTypes:= #[t,t]})
  (ht:W2 P t bytes sz=true) (hs:okO num s s'=true) (hx:okO num x x'=true)
  (he:Qi K (.appg bytes sz s x) σ=some (v,σ1)) (h:Aft num N w0 m0 T β0 σ1 a v fun u w'=>next (a.put o.dst u) w'):o.wp P a w next Q:=by
 have hsrc: ∃ρ ys o2 ν1 u,Qi K (.appg bytes sz s x) σ=(if ys.length=0 then none else some (.gs σ.bs.length 0 sz ys.length,{env:=ρ,bs:=σ.bs ++ [ys.flatten.map AV.strip]}))/\
   ys.length*bytes<=140737488355328/\val σ.env x= .sl o2 sz ys/\
   a.eval s'=u/\Inv num N w0 m0 T β0 {σ with env:=ρ} a w m β ν1/\Qd num β w m (.sl true sz []) u/\Zz w m ν1 .f (.sl true sz []) u:=by
  cases s with
  | t n=>
   simp only[Qi]at he;split at he
   ·rename_i sz1 ρ o2 sz2 ys e1 e2;simp only[QV]at e1;obtain⟨e1,rfl⟩:=e1;split at he
    ·rename_i hc;obtain⟨rfl,rfl,hb⟩:=hc;unfold okO at hs;split at hs
     ·rename_i n2 t2 hn2;injection hn2 with hn2
      subst hn2;simp only[Qv]at hs;subst hs;obtain⟨_,h2⟩:=hI.at_ (n:=n) (by rw[e1];simp);have h3:=hI.slots n _ h2;rw[e1]at h3;obtain⟨h3,h4⟩:=h3;refine⟨_,ys,o2,_,a.eval (.tmp n),by simp only[Qi,e1,e2];simp[hb],hb,e2,rfl,hI.takeSlot n,h3,?_⟩;have:=VX (θ:=mv (.s n) .f) h4;rwa[show mv (.s n) .f (.s n)= .f by simp[mv]]at this
     ·rename_i hn2;cases hn2
     ·rename_i hn2;cases hn2
     ·cases hs
    ·cases he
   ·cases he
  | c vc=>
   simp only[Qi]at he;split at he
   ·rename_i sz1 ρ o2 sz2 ys e1 e2;simp only[QV]at e1;obtain⟨rfl,rfl⟩:=e1;split at he
    ·rename_i hc;obtain⟨rfl,rfl,hb⟩:=hc;have h1:=hI.val hs (show(val σ.env (.c _)).ok=true from rfl);exact⟨_,ys,o2,ν,a.eval s',by simp only[Qi,e2];simp[hb],hb,e2,rfl,hI,h1.1,h1.2 _⟩
    ·cases he
   ·cases he
 obtain⟨ρ,ys,o2,ν1,u,hex,hb,hvx,hu,hI1,hr,hown⟩:=hsrc;rw[hex]at he;have hry:=(hI.val hx (by rw[hvx];rfl)).1;rw[hvx]at hry;split at he
 ·cases he
 ·rename_i hy0;injection he with he
  injection he with h1 h2
  subst h1 h2;exact QcE hu rfl ho ht hb hI1 hr hown hry hy0 h
def KT:=@Nat.eq_zero_or_pos
def Vl:=@getElem!_pos
def HA {z:Ze} (h:z.all (·.oneCell')=true) (n:Nat): ∀v∈(Builtin.zeroCells z n).toList,v.oneCell'=true:=by
 intro v hv;unfold Builtin.zeroCells at hv;rw[Array.mem_toList_iff,Array.mem_map]at hv;obtain⟨i,hi,rfl⟩:=hv;rw[Array.mem_range]at hi;have h0:0 < z.size:=by
  rcases KT z.size with h | h
  ·rw[h]at hi;omega
  ·exact h
 have hlt:i % z.size < z.size:=Ps _ h0;rw[Vl z _ hlt];rw[Array.all_eq_true]at h;exact h _ hlt
def OC:=@List.length_replicate
def FB:=@List.getElem?_replicate
def Pk:=@List.getElem_mem
def Qm6 [Dr] {sz:Nat} {x:AO} {x':Operand} {t:TypeId} (hI:Inv num N w0 m0 T β0 σ a w m β ν) (ho:o.op= .call {callee:= .builtin .clear,args:= #[x'],argTypes:= #[t]}) (ht:QeP P t sz=true) (hx:okO num x x'=true)
  (he:Qi K (.clr sz x) σ=some (v,σ1)) (h:Aft num N w0 m0 T β0 σ1 a v fun u w'=>next (a.put o.dst u) w'):o.wp P a w next Q:=by
 simp only[Qi]at he;split at he
 ·rename_i id of sz1 k hA;split at he
  ·rename_i hc;obtain⟨rfl,h0⟩:=hc;have g1:=(hI.val hx (by rw[hA];rfl)).1;rw[hA]at g1;simp only[Qd]at g1;obtain⟨A,cap,g1,g3,g4,g5⟩:=g1;unfold QeP at ht;split at ht
   ·rename_i e hun;split at ht
    ·rename_i i hi;split at ht
     ·rename_i z hz;simp only[Qo,Qv]at ht;obtain⟨hzs,hz1⟩:=ht;have hzero: ∀w:World,(zeroValue e).run P w= .ok z w:=fun w=>by simp[zeroValue,typeInfo,hi,hz]
      split at he
      ·rename_i hk0;injection he with he
       injection he with h1 h2
       subst h1 h2 hk0;refine Qr (u:= .tuple #[]) (w':=w) ?_ (h _ w m β ν hI trivial);cases A <;> simp[execOp,ho,resolve,invoke,builtin,g1,Builtin.clear_,run_underlying hun]
      ·rename_i hk0;cases hbs:σ.bs[id]? with
       | none=>rw[hbs]at he;cases he
       | some cs=>
        rw[hbs]at he;simp only[QC]at he;split at he
        ·rename_i hl;injection he with he
         injection he with h1 h2
         subst h1 h2;rcases g5 with g5 | ⟨⟨b,bz,bmp⟩,g5,rfl,g6,_⟩
         ·exact absurd g5.1 hk0
         have hkm:0 < k*sz1:=Si (Mk hk0) h0;have hne0:cs≠[]:=fun e=>by rw[e]at hl;simp only[Yz]at hl;omega
         obtain⟨cur,e2,hb,⟨hzc,hzl⟩,hcur,hfin⟩:=hI.setG (cs':=put cs of (List.replicate (k*sz1) .undef)) id hbs g5 hne0;simp only at hb hzc hzl g1;obtain⟨zs,hzz⟩: ∃zs,zs=(Builtin.zeroCells z.cells k).toList:=⟨_,rfl⟩;have hzlen:zs.length=k*sz1:=by rw[hzz,Tv,size_zeroCells,hzs]
         have hone: ∀v∈zs,v.oneCell'=true:=fun v hv=>HA hz1 k v (by rw[<- hzz];exact hv);have hst:=run_storeCells_at P b of e2 zs 0 cur w hb (by omega) hone;simp only[Ty]at hst;obtain⟨k2,hk2⟩: ∃k2,k=k2+1:=⟨k - 1,by omega⟩;have hrun: (execOp a.eval o).run P w= .ok (.value (.tuple #[])) (w.setRow b (cur.toList.take of ++ zs ++ cur.toList.drop (of+zs.length)).toArray):=by
          rw[hk2]at hzz;simp only[execOp,ho,resolve,invoke,builtin,V5,Yf,Wr,g1,Sem.run_bind,Sem.run_pure,Result.andThen_ok];simp[Builtin.clear_,run_underlying hun,hzero,hk2,<- hzz,hst]
         have hpl:of+ (List.replicate (k*sz1) AV.undef).length<=cs.length:=by rw[OC];exact hl
         have hrow:=T6 (cs:=cs) (vs:=List.replicate (k*sz1) AV.undef) (cur:=cur) (us:=zs) (by omega) hpl (by rw[OC];exact hzlen)
          (R:=fun i c u=>u.oneCell'=true/\Qd num β w m c u/\Zz w m ν (.gc id i) c u) (S:=fun _ c u=>u.oneCell'=true/\c= .undef) hcur
          (fun i c hi=>by
           rw[FB]at hi;split at hi
           ·rename_i hik;injection hi with hi
            have:i < zs.length:=by omega
            exact⟨zs[i],Zv this,hone _ (Pk _),hi.symm⟩
           ·cases hi)
         refine Qr hrun (h _ _ m β _ (hfin (fun p=>p) _ (fun _=>rfl) (fun _ _=>rfl) (fun _=>rfl) (fun _ _=>rfl) ?_ ?_ ?_) trivial)
         ·exact hrow.1.trans hzc
         ·rw[Sz _ _ _ hpl];exact hzl
         ·intro i c hi;obtain⟨u,q1,q2⟩:=hrow.2 i c hi;refine⟨u,q1,?_⟩;have hne:ν b≠some (.gc id i):=by
           obtain⟨_,_,_,_,_,hν,_⟩:=(hI.boxes id cs _ hbs g5.1 hne0).1 g5.2;rw[hν];simp
          rcases q2 with⟨k1,k3,k4⟩ | ⟨_,_,k1,rfl⟩
          ·exact⟨k1,k3,_,k4,rfl,hne⟩
          ·exact⟨k1,by simp only[Qd];exact k1,.gc id i,trivial,rfl,hne⟩
        ·cases he
     ·cases ht
    ·cases ht
   ·cases ht
  ·cases he
 ·cases he
end
end Go.Am
