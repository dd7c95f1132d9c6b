/-
  Am10.
-/
import Derived.Test.YthlnfdbbneaelaaGreatDoorG02
set_option linter.all false
namespace Go.Am
def Ps (P:Program) (t:TypeId) (bytes sz:Nat):Bool:=match P.underlying t with
 | some (.slice e)=>match P.info? e with
  | some i=>decide (i.size=sz) && decide (i.bytes=bytes) && decide (0 < sz) && decide (0 < bytes) && (match i.zero with
   | some z=>decide (z.cells.size=sz)
   | none=>false)
  | none=>false
 | _=>false
def Qlc (P:Program) (t:TypeId) (sz:Nat):Bool:=match P.underlying t with
 | some (.slice e)=>match P.info? e with
  | some i=>(match i.zero with
   | some z=>decide (z.cells.size=sz) && z.cells.all (·.oneCell')
   | none=>false)
  | none=>false
 | _=>false
section
variable {P:Program} {num:Nat->Option Nat} {β:List Blk} {w w':World} {m:Nat->Nat} {ν:Own} {N:Nat} {w0:World} {m0:Nat->Nat} {T:Nat->Prop} {β0:List Blk} {σ σ1:St} {a:Act}
 {o:Oper} {next:Act->World->Prop} {Q:Exit->Act->World->Prop} {K:Vd} {v:AV}
def Bq:=@Nat.div_lt_iff_lt_mul
def WU:=@Nat.mod_lt
def JC:=@Nat.div_add_mod
def Nr {e g d b} (h:XN num β w m e g d b) (c:0 < b): ∀j,j < e.length*b->∃u,g (d+j)=some u/\u.oneCell'=true:=by
 intro j r;rw[Vk]at h;have p:j / b < e.length:=by rwa[Bq c]
 obtain⟨q,f⟩:=h _ _ (Q0 p);rw[Y1]at f;have l:j % b < (e[j / b]).length:=by rw[q];exact WU _ c
 obtain⟨u,i,k,_⟩:=f _ _ (Q0 l);have n:d+j / b*b+j % b=d+j:=by have:=JC j b;rw[Nat.mul_comm]at this;omega
 rw[n]at i;exact⟨u,i,k⟩
def Jh {d g g' l of' b} (h:XN num β w m d g l b) (r: ∀j u,j < d.length*b->g (l+j)=some u->g' (of'+j)=some u):
  XN num β w m d g' of' b:=by
 rw[Vk]at h ⊢;intro i x e;obtain⟨s,n⟩:=h i x e;refine⟨s,?_⟩;rw[Y1]at n ⊢;intro j c k;obtain⟨u,y,q,t⟩:=n j c k;refine⟨u,?_,q,t⟩;have p:j < b:=by rcases Zt j x.length with h | h;omega;rw[ZF h]at k;cases k
 have f: (i+1)*b<=d.length*b:=Yy _ (by rcases Zt i d.length with h | h;exact h;rw[ZF h]at e;cases e);rw[U6]at f;have:=r (i*b+j) u (by omega) (by rwa[<- TI]);rwa[<- TI]at this
def I0 {b f g e c} (h:XN num β w m b g e c) (k:XN num β w m f g (e+b.length*c) c):XN num β w m (b ++ f) g e c:=by
 rw[Vk]at h k ⊢;intro i x d;by_cases j:i < b.length;rw[Y3 j]at d;exact h i x d;rw[Yq (by omega)]at d;have:=k _ x d;rwa[TI,<- Yk,Nat.add_sub_cancel' (by omega)]at this
def PN {t f e i b n d c x} (g:P.underlying t=some (.slice e)) (j:P.info? e=some i) (h:n<=d):
  (Builtin.append_ #[t,t] f #[.slice b n d,.slice x 0 c]).run P w= .ok (.slice b n d) w:=by
 cases b <;> cases x <;> simp[Builtin.append_,run_underlying g,sizeOf,typeInfo,j,Builtin.lenOf,Builtin.firstCells,loadCells,loadCellsFrom,h,storeCells]
def VE {t ty e p i g sLen sCap d A k c b} (x:P.underlying t=some (.slice e)) (q:P.info? e=some i)
  (s:w.heap[g]? =some (.cells d p (0,0))) (r:b.length=k*i.size) (h: ∀j u,b[j]? =some u->w.cell? (A.add j)=some u) (y: ∀u∈b,u.oneCell'=true)
  (f:sLen+k<=sCap) (n:sLen*i.size+b.length<=d.size):
  (Builtin.append_ #[t,t] ty #[.slice (some ⟨g,0,none⟩) sLen sCap,.slice (some A) k c]).run P w=
   .ok (.slice (some ⟨g,0,none⟩) (sLen+k) sCap) (w.setRow g (d.toList.take (sLen*i.size)++ b ++ d.toList.drop (sLen*i.size+b.length)).toArray):=by
 have l:=run_storeCells_at P g (sLen*i.size) p b 0 d w s (by simpa using n) y;simp only[Pn]at l;simp[Builtin.append_,run_underlying x,sizeOf,typeInfo,q,Builtin.lenOf,f,(run_firstCells_some (P:=P) w i.size k A k c b r h),Wf,l]
def Rw {t ty e i z} (q:P.underlying t=some (.slice e)) (s:P.info? e=some i) (l:i.zero=some z) {base}
  {A n c} {d:WM} (p:d.length=n*i.size) (f: ∀j v,d[j]? =some v->w.cell? (A.add j)=some v)
  (r:0 < n) (g: (n:Int)<=9223372036854775807) (k:n*i.bytes<=281474976710656):
  (Builtin.append_ #[t,t] ty #[.slice base 0 0,.slice (some A) n c]).run P w=
   .ok (.slice (some ⟨w.heap.size,0,none⟩) n (grownCap w n 0 e)) (w.drew.alloc (.cells (d.toArray ++ Builtin.zeroCells z.cells (grownCap w n 0 e - n)) e)):=by
 rcases base with _ | b;exact run_append_nil (P:=P) w t ty e i z q s l A n c d p f r g k;have:=run_append_grow (P:=P) w t ty e i z q s l b 0 0 [] (by simp) (fun j v h=>by simp at h) A n c d p f (by omega) (by simpa using g) (by rwa[Z1,nextslicecap_zero r]);simpa using this
def FO (P:Program) (t t2:TypeId):Bool:=decide (t=t2) || (match P.underlying t,P.underlying t2 with
 | some (.slice _),some (.slice _)=>true
 | _,_=>false)
def Mi {t d e f} (h:P.underlying t=some (.slice e)) (g:P.underlying d=some (.slice f)) (ty b w):
  (Builtin.append_ #[t,d] ty b).run P w=(Builtin.append_ #[t,t] ty b).run P w:=by
 unfold Builtin.append_;rcases i:b[0]? with _ | u;simp;rcases j:b[1]? with _ | x;simp;cases u <;> simp[run_underlying h,run_underlying g]
def Pm:=@Bool.false_or
def LC:=@List.map_toArray
def HZ {c b t f} (g:o.op= .call {callee:= .builtin .append,args:= #[c,b],argTypes:= #[t,f]}) (d:FO P t f=true)
  (h: ({o with op:= .call {callee:= .builtin .append,args:= #[c,b],argTypes:= #[t,t]}}:Oper).wp P a w next Q):o.wp P a w next Q:=by
 unfold FO at d;by_cases e:t=f;subst e;have: ({o with op:= .call {callee:= .builtin .append,args:= #[c,b],argTypes:= #[t,t]}}:Oper)=o:=by rw[<- g]
 rwa[this]at h;simp only[e,JG,Pm]at d;split at d;rename_i l n i j;unfold Oper.wp at h ⊢;have k: (execOp a.eval o).run P w=(execOp a.eval ({o with op:= .call {callee:= .builtin .append,args:= #[c,b],argTypes:= #[t,t]}}:Oper)).run P w:=by simp only[execOp,g,resolve,invoke,builtin,LC,ZI,Vv,Sem.run_bind,Sem.run_pure,Result.andThen_ok,Mi i j]
 rwa[k];cases d
def Jt:=@List.length_pos_iff
def OZ:=@Array.size_append
def BC:=@Array.append_assoc
def Oy:=@Array.getElem?_append_left
def Bn:=@Array.getElem?_append_right
def Yu:=@List.eq_nil_of_length_eq_zero
def BD:=@Array.empty_append
def JD:=@Nat.min_eq_left
def QkO [Dr] {bytes sz s' x' t σ2 xs ys o2 ν1 u Y} (hu:a.eval s'=u) (hY:a.eval x'=Y)
  (ho:o.op= .call {callee:= .builtin .append,args:= #[s',x'],argTypes:= #[t,t]}) (ht:Ps P t bytes sz=true) (hb: (xs.length+ys.length)*bytes<=140737488355328)
  (hI1:Inv num N w0 m0 T β0 σ2 a w m β ν1) (hr:Qh num β w m (.sl true sz xs) u) (hown:Yr w m ν1 .f (.sl true sz xs) u) (hry:Qh num β w m (.sl o2 sz ys) Y)
  (h:Aft num N w0 m0 T β0 σ2 a (.sl true sz (xs ++ ys)) fun u w'=>next (a.put o.dst u) w'):o.wp P a w next Q:=by
 unfold Ps at ht;split at ht;rename_i e hun;split at ht;rename_i i hi;simp only[Qr,QM]at ht;obtain⟨⟨⟨⟨rfl,rfl⟩,hsz⟩,hby⟩,hz⟩:=ht;split at hz;rename_i z hzz;simp only[QM]at hz;have hexec: ∀r w',(Builtin.append_ #[t,t] o.type #[u,Y]).run P w= .ok r w'->(execOp a.eval o).run P w= .ok (.value r) w':=fun r w' hrr=>by simp only[execOp,ho,resolve,invoke,builtin,LC,ZI,Vv,hu,hY,Sem.run_bind,Sem.run_pure,Result.andThen_ok,hrr]
 have hsmall:=Y8 (Jq _ hby) hb;have hr':=hr;simp only[Qh]at hr' hry;obtain⟨A,len,cap,rfl,g2,g3,g4,g5⟩:=hr';obtain⟨B,len2,cap2,rfl,k2,k3,k4,k5⟩:=hry;by_cases hy0:ys=[];subst hy0;simp only[Xy]at k2;subst k2;refine QE (hexec _ _ (PN hun hi g3)) (h _ w m β ν1 hI1 ((Zr rfl).2 ⟨by simpa using hr,by simpa using hown⟩));have hm:=Jt.2 hy0;rcases k5 with k5 | ⟨b2,of2,rfl,k5⟩;exact absurd k5 hy0;let news:WM:=(List.range (ys.length*i.size)).map fun j=>(w.cell? ⟨b2,of2+j,none⟩).getD undef;have hnl:news.length=len2*i.size:=by simp[news,k2]
 have hget: ∀j,j < ys.length*i.size->∃u,news[j]? =some u/\w.cell? ⟨b2,of2+j,none⟩=some u/\hg w m b2 (of2+j)=some u/\u.oneCell'=true:=fun j hj=>by obtain⟨u,g1,g2⟩:=(Nr k5 hsz) j hj;have:=(Ub g1).2.1;exact⟨u,by simp[news,hj,this],this,g1,g2⟩
 have hlt: ∀{j:Nat} {u:Value},news[j]? =some u->j < ys.length*i.size:=fun {j u} hj=>by rcases Zt j news.length with h | h;simpa[news]using h;rw[ZF h]at hj;cases hj
 have hnews: ∀j u,news[j]? =some u->w.cell? ((⟨b2,of2,none⟩:Addr).add j)=some u:=fun j u hj=>by obtain⟨u2,p1,p2,_⟩:=hget j (hlt hj);rw[hj]at p1;cases p1;rwa[Wf]
 have fresh: ∀(olds:WM) (capN:Nat),olds.length=xs.length*i.size->(∀j u,j < xs.length*i.size->(∃b o1,A=some ⟨b,o1,none⟩/\hg w m b (o1+j)=some u)->olds[j]? =some u)->xs.length+ys.length<=capN->capN<=maxLen->next (a.put o.dst (.slice (some ⟨w.heap.size,0,none⟩) (xs.length+ys.length) capN)) (w.drew.alloc (.cells (olds.toArray ++ news.toArray ++ Builtin.zeroCells z.cells (capN - (xs.length+ys.length))) e)):=by intro olds capN ho1 ho2 hc1 hc2;obtain⟨rows,hrows⟩: ∃rows:Vw,rows=olds.toArray ++ news.toArray ++ Builtin.zeroCells z.cells (capN - (xs.length+ys.length)):=⟨_,rfl⟩;rw[<- hrows];(have hrsz:rows.size=capN*i.size:=by rw[hrows];simp only[OZ,VW,size_zeroCells,hz,ho1,hnl,<- k2];rw[<- Yk,<- Yk];congr 1;omega);have hI2:=(hI1.drew).fresh rows e ((xs.length+ys.length)*i.size) .f;(have hgr: ∀j u,j < (xs.length+ys.length)*i.size->rows[j]? =some u->hg (w.drew.alloc (.cells rows e)) (m1 m w.drew.heap.size ((xs.length+ys.length)*i.size)) w.heap.size (0+j)=some u:=fun j u hj hru=>by have hh: (w.drew.alloc (.cells rows e)).heap[w.heap.size]? =some (.cells rows e (0,0)):=heap_alloc_new w.drew _;unfold hg;rwa[Z1,Qe (by simpa[m1]using hj),cell_of_row _ _ _ rows e (0,0) hh]);have hle:Le w m (w.drew.alloc (.cells rows e)) (m1 m w.drew.heap.size ((xs.length+ys.length)*i.size)):=(Y2.alloc (fun _=>False) w.drew m rows e _).le;refine h _ _ _ β _ hI2 ((Zr rfl).2 ⟨?_,.inr ⟨w.heap.size,capN,rows,e,by simp,heap_alloc_new w.drew _,hrsz,by simp[m1],by simp[Y0]⟩⟩);simp only[Qh];refine⟨_,_,_,rfl,by simp,hc1,hc2,.inr ⟨w.heap.size,0,rfl,I0 ?_ ?_⟩⟩;rcases g5 with g5 | ⟨b,o1,rfl,g5⟩;rw[g5];simp only[XN];refine T7 (Ge.refl β) hle _ _ _ _ _ (fun _ _ h=>h) (Jh (g':=hg (w.drew.alloc (.cells rows e)) (m1 m w.drew.heap.size ((xs.length+ys.length)*i.size)) w.heap.size) (of':=0) g5 fun j u hj hju=> ?_);refine hgr j u (by rw[Yk];omega) ?_;rw[hrows,BC,Oy (by simpa[ho1]using hj)];simpa using ho2 j u hj ⟨b,o1,rfl,hju⟩;refine T7 (Ge.refl β) hle _ _ _ _ _ (fun _ _ h=>h) (Jh (g':=hg (w.drew.alloc (.cells rows e)) (m1 m w.drew.heap.size ((xs.length+ys.length)*i.size)) w.heap.size) (of':=0+xs.length*i.size) k5 fun j u hj hju=> ?_);rw[TI];refine hgr (xs.length*i.size+j) u (by rw[Yk];omega) ?_;rw[hrows,Oy (by simp[ho1,hnl];rw[<- k2];omega),Bn (by simp[ho1])];obtain⟨u2,p1,_,p3,_⟩:=hget j hj;rw[hju]at p3;cases p3;simpa[ho1]using p1
 simp only[Yr]at hown;rcases hown with⟨A2,hA2⟩ | ⟨b,capO,cur,e2,hA2,q1,q2,q3,q4⟩;cases hA2;have hx0:=Yu g2;have hrun:=Rw (P:=P) (w:=w) (ty:=o.type) (base:=A) (A:=⟨b2,of2,none⟩) (n:=len2) (c:=cap2) hun hi hzz hnl hnews (by omega) (by omega) (by have hb2:=hb;rw[hx0,k2]at hb2;simp only[Xy,Z1]at hb2;omega);have hf:=fresh [] (grownCap w len2 0 e) (by rw[hx0];simp) (fun j u hj _=>by rw[hx0]at hj;simp at hj) (by rw[hx0,k2,Xy,Z1];exact grownCap_ge w len2 0 e) (grownCap_le_maxLen w len2 0 e (by unfold maxLen;omega));rw[hx0,k2]at hf;simp only[Xy,Z1,BD]at hf;exact QE (hexec _ _ hrun) hf;cases hA2;have hro: ∀j u,j < xs.length*i.size->hg w m b (0+j)=some u->cur[j]? =some u:=fun j u hj hju=>by rw[Z1]at hju;have:=(Ub hju).2.1;rwa[cell_of_row w b j cur e2 (0,0) q1]at this
 by_cases hroom:xs.length+ys.length<=cap;have hfit:xs.length*i.size+news.length<=cur.size:=by rw[hnl,q2,<- k2,<- Yk];exact Yy _ hroom
 have hrun:=VE (P:=P) (w:=w) (ty:=o.type) (c:=cap2) hun hi q1 hnl hnews (fun u hu2=>by obtain⟨j,hj⟩:=SA hu2;obtain⟨u2,p1,_,_,p2⟩:=hget j (hlt hj);rw[hj]at p1;cases p1;exact p2) (by rwa[<- k2]) hfit;have hfit2:xs.length*i.size+news.length<=cur.toList.length:=by simpa using hfit
 have hI2:=hI1.setFloat (cur':=(cur.toList.take (xs.length*i.size)++ news ++ cur.toList.drop (xs.length*i.size+news.length)).toArray) (k:=(xs.length+ys.length)*i.size) q1 q4 (fun j u hj hcu=>by rw[S2,W8 _ _ _ hfit2,Qe (by omega)];simpa using hcu) (by rw[q3];exact Yy _ (by omega));have hS:=Y2.setRow (m:=m) (cur':=(cur.toList.take (xs.length*i.size)++ news ++ cur.toList.drop (xs.length*i.size+news.length)).toArray) (k:=(xs.length+ys.length)*i.size) q1 (fun j u hj hcu=>by rw[S2,W8 _ _ _ hfit2,Qe (by omega)];simpa using hcu) (by rw[q3];exact Yy _ (by omega));rw[<- k2]at hrun hexec;refine QE (hexec _ _ hrun) (h _ _ _ β _ hI2 ((Zr rfl).2 ⟨?_,.inr ⟨b,cap,_,e2,by simp,setRow_heap w b cur _ e2 (0,0) q1,?_,by simp[m1],q4⟩⟩));simp only[Qh];refine⟨_,_,_,rfl,by simp,hroom,g4,.inr ⟨b,0,rfl,I0 ?_ ?_⟩⟩;rcases g5 with g5 | ⟨b3,o1,hA5,g5⟩;rw[g5];simp only[XN];cases hA5;exact T7 (Ge.refl β) hS.le _ _ _ _ _ (hS.le b) g5;refine T7 (Ge.refl β) hS.le _ _ _ _ _ (fun _ _ h=>h) (Jh (of':=0+xs.length*i.size) k5 fun j u hj hju=> ?_);unfold hg;rw[Z1,Qe (by simp[m1,Yk];omega),cell_setRow_same w b _ cur _ e2 (0,0) q1,S2,W8 _ _ _ hfit2,Qb (by omega),Qe (by rw[hnl,<- k2];omega)];obtain⟨u2,p1,_,p3,_⟩:=hget j hj;rw[hju]at p3;cases p3;rwa[Jp];rw[VW,Td _ _ _ hfit2];simpa using q2;have hol: (cur.toList.take (xs.length*i.size)).length=xs.length*i.size:=by(have hle:xs.length*i.size<=cur.toList.length:=by simpa[q2]using Yy i.size g3);rw[Ye];exact JD hle
 have hrun:=run_append_grow (P:=P) w t o.type e i z hun hi hzz ⟨b,0,none⟩ xs.length cap _ hol (fun j u hj=>by rw[Wf,Z1,cell_of_row w b j cur e2 (0,0) q1];rw[Tn]at hj;split at hj;simpa using hj;cases hj) ⟨b2,of2,none⟩ len2 cap2 news hnl hnews (by omega) (by omega) (growslice_fits (by omega) (by rwa[<- k2]));have hf:=fresh (cur.toList.take (xs.length*i.size)) (grownCap w (xs.length+len2) cap e) hol (fun j u hj hju=>by obtain⟨b3,o1,hA5,hju⟩:=hju;cases hA5;rw[VV hj];simpa using hro j u hj hju) (by rw[k2];exact grownCap_ge w _ cap e) (grownCap_le_maxLen w _ cap e (by unfold maxLen;omega));rw[<- k2]at hrun hf hexec;exact QE (hexec _ _ hrun) hf;cases hz;cases ht;cases ht
def Zm:=@Prod.mk.injEq
def QtT [Dr] {b p s x H S t} (q:Inv num N w0 m0 T β0 σ a w m β ν) (V:o.op= .call {callee:= .builtin .append,args:= #[H,S],argTypes:= #[t,t]})
  (U:Ps P t b p=true) (r:okO num s H=true) (Z:okO num x S=true)
  (d:Qk K (.app b p s x) σ=some (v,σ1)) (h:Aft num N w0 m0 T β0 σ1 a v fun u w'=>next (a.put o.dst u) w'):o.wp P a w next Q:=by
 have C: ∃z i j y l u,Qk K (.app b p s x) σ=some (.sl true p (i ++ j),{σ with env:=z})/\(i.length+j.length)*b<=140737488355328/\val σ.env x= .sl y p j/\a.eval H=u/\Inv num N w0 m0 T β0 {σ with env:=z} a w m β l/\Qh num β w m (.sl true p i) u/\Yr w m l .f (.sl true p i) u:=by cases s with | t n=>simp only[Qk]at d;split at d;rename_i O i z y L j g B;simp only[Zm]at g;obtain⟨g,rfl⟩:=g;split at d;rename_i I;obtain⟨rfl,rfl,k⟩:=I;unfold okO at r;split at r;rename_i n2 t2 e;cases e;simp only[QM]at r;subst r;obtain⟨_,h2⟩:=q.at_ (n:=n) (by rw[g];simp);have G:=q.slots n _ h2;rw[g]at G;obtain⟨G,W⟩:=G;refine⟨_,i,j,y,_,a.eval (.tmp n),by simp only[Qk,g,B];simp[k],k,B,rfl,q.takeSlot n,G,?_⟩;have:=UU (θ:=mv (.s n) .f) W;rwa[show mv (.s n) .f (.s n)= .f by simp[mv]]at this;rename_i e;cases e;rename_i e;cases e;cases r;cases d;cases d | c vc=>simp only[Qk]at d;split at d;rename_i O i z y L j g B;simp only[Zm]at g;obtain⟨rfl,rfl⟩:=g;split at d;rename_i I;obtain⟨rfl,rfl,k⟩:=I;have R:=q.val r (show(val σ.env (.c _)).ok=true from rfl);exact⟨_,i,j,y,ν,a.eval H,by simp only[Qk,B];simp[k],k,B,rfl,q,R.1,R.2 _⟩;cases d;cases d
 obtain⟨z,i,j,y,l,u,M,k,D,Y,J,X,E⟩:=C;rw[M]at d;cases d;have A:=(q.val Z (by rw[D];rfl)).1;rw[D]at A;exact QkO Y rfl V U k J X E A h
def Qiz [Dr] {n j:Nat} (k:Inv num N w0 m0 T β0 σ a w m β ν) (c:o.op= .move (.tmp n)\/o.op= .assign (.tmp n))
  (e:Qk K (.frz n j) σ=some (v,σ1)) (h:Aft num N w0 m0 T β0 σ1 a v fun u w'=>next (a.put o.dst u) w'):o.wp P a w next Q:=by
 simp only[Qk]at e;obtain⟨f,d,i,q,l,g,p⟩:=k.frz e;have b: (execOp a.eval o).run P w= .ok (.value (a.eval (.tmp n))) w:=by rcases c with c | c <;> simp[execOp,c]
 exact QE b (h _ w f β d i ((Zr l).2 ⟨g,p⟩))
def QhS:=@Array.eq_empty_of_size_eq_zero
def QpW [Dr] {t k} (l:Inv num N w0 m0 T β0 σ a w m β ν) (j:o.op= .buildSlice t 0 #[])
  (b:NE P t k 0=true)
  (d:Qk K .zlit σ=some (v,σ1)) (h:Aft num N w0 m0 T β0 σ1 a v fun u w'=>next (a.put o.dst u) w'):o.wp P a w next Q:=by
 simp only[Qk]at d;cases d;unfold NE at b;split at b;rename_i e q;simp only[Qr,QM]at b;obtain⟨⟨⟨c,n⟩,g⟩,p⟩:=b;refine QE (u:= .slice (some ⟨w.heap.size,0,none⟩) 0 0) (w':=w.alloc (.cells #[] e)) ?_ ?_;simp only[execOp,j,Instr.buildSlice,Sem.run_bind,run_underlying q,Result.andThen_ok,Yp c];have i:Array.map (fun _=>(default:Value)) (Array.range 0)= #[]:=QhS (by simp);simp[newRow,Instr.fill,i];refine h _ _ _ β _ (l.fresh #[] e 0 .f) ((Zr rfl).2 ⟨?_,trivial⟩);simp only[Qh];exact⟨_,0,rfl,QX _,by unfold maxLen;omega,.inl (by simp)⟩;cases b
def Qly [Dr] {b R s x H I t} (p:Inv num N w0 m0 T β0 σ a w m β ν) (L:o.op= .call {callee:= .builtin .append,args:= #[H,I],argTypes:= #[t,t]})
  (f:Ps P t b R=true) (J:okO num s H=true) (S:okO num x I=true)
  (g:Qk K (.appzz s x) σ=some (v,σ1)) (h:Aft num N w0 m0 T β0 σ1 a v fun u w'=>next (a.put o.dst u) w'):o.wp P a w next Q:=by
 simp only[Qk]at g;split at g;rename_i i1 Z o2 O z E;cases g;have r:=(p.val J (by rw[z];rfl)).1;rw[z]at r;simp only[Qh]at r;obtain⟨A,l,U,G,V,n⟩:=r;have d:l=0:=by rcases n with n | ⟨_,_,_,_,Y⟩;simpa using n.2;omega
 subst d;have q:=(p.val S (by rw[E];rfl)).1;rw[E]at q;simp only[Qh]at q;obtain⟨B,C,D,k,y,X,W,k5⟩:=q;simp only[Xy]at y;subst y;unfold Ps at f;split at f;rename_i e j;split at f;rename_i i M;have c: (execOp a.eval o).run P w= .ok (.value (.slice A 0 0)) w:=by simp only[execOp,L,resolve,invoke,builtin,LC,ZI,Vv,U,k,Sem.run_bind,Sem.run_pure,Result.andThen_ok,PN j M G]
 refine QE c (h.same p rfl ?_ trivial);simp only[Qh];exact⟨A,0,rfl,G,V,.inl (by simp)⟩;cases f;cases f;cases g
def To:=@List.flatten_cons
def Xt:=@List.map_append
def OW: ∀{j g e l},XN num β w m j g e l->∀i c,(j.flatten.map AV.strip)[i]? =some c->
  ∃u,g (e+i)=some u/\u.oneCell'=true/\Qh num β w m c u/\∀p w' n f,Yr w' n f p c u
 | [],_,_,_,_,i,c,b=>by simp at b
 | y:: j,g,e,l,h,i,c,b=>by
  simp only[XN]at h;obtain⟨z,r,x⟩:=h;rw[To,Xt]at b;by_cases s:i < y.length;rw[Y3 (by simpa using s)]at b;obtain⟨d,t,rfl⟩:=ZE b;rw[Y1]at r;obtain⟨u,q,k,A⟩:=r i d t;exact⟨u,q,k,by rwa[Zg],fun p w' n f=>Xr _ _ _⟩;rw[Yq (by simpa using s),UD]at b;obtain⟨u,q,k⟩:=OW x _ c b;exact⟨u,by rwa[show e+i=e+l+ (i - y.length) by omega],k⟩
def UX: ∀{c g e d},XN num β w m c g e d->(c.flatten.map AV.strip).length=c.length*d
 | [],_,_,_,_=>by simp
 | y:: c,g,e,d,h=>by
  simp only[XN]at h;have:=UX h.2.2;rw[UD]at this;rw[UD,To,Zl,this,h.1,ZH,U6];omega
def QhY [Dr] {bytes sz s' x' t σ2 ys o2 ν1 u Y} (hu:a.eval s'=u) (hY:a.eval x'=Y)
  (ho:o.op= .call {callee:= .builtin .append,args:= #[s',x'],argTypes:= #[t,t]}) (ht:Ps P t bytes sz=true) (hb:ys.length*bytes<=140737488355328)
  (hI1:Inv num N w0 m0 T β0 σ2 a w m β ν1) (hr:Qh num β w m (.sl true sz []) u) (hown:Yr w m ν1 .f (.sl true sz []) u) (hry:Qh num β w m (.sl o2 sz ys) Y) (hy0:ys.length≠0)
  (h:Aft num N w0 m0 T β0 {σ2 with bs:=σ2.bs ++ [ys.flatten.map AV.strip]} a (.gs σ2.bs.length 0 sz ys.length) fun u w'=>next (a.put o.dst u) w'):o.wp P a w next Q:=by
 unfold Ps at ht;split at ht;rename_i e hun;split at ht;rename_i i hi;simp only[Qr,QM]at ht;obtain⟨⟨⟨⟨rfl,rfl⟩,hsz⟩,hby⟩,hz⟩:=ht;split at hz;rename_i z hzz;simp only[QM]at hz;have hexec: ∀r w',(Builtin.append_ #[t,t] o.type #[u,Y]).run P w= .ok r w'->(execOp a.eval o).run P w= .ok (.value r) w':=fun r w' hrr=>by simp only[execOp,ho,resolve,invoke,builtin,LC,ZI,Vv,hu,hY,Sem.run_bind,Sem.run_pure,Result.andThen_ok,hrr]
 have hm:=Ph hy0;have hsmall:=Y8 (Jq _ hby) hb;simp only[Qh]at hr hry;obtain⟨A,len,cap,rfl,g2,g3,g4,g5⟩:=hr;simp only[Xy]at g2;subst g2;obtain⟨B,len2,cap2,rfl,k2,k3,k4,k5⟩:=hry;rcases k5 with k5 | ⟨b2,of2,rfl,k5⟩;rw[k5]at hm;cases hm;let news:WM:=(List.range (ys.length*i.size)).map fun j=>(w.cell? ⟨b2,of2+j,none⟩).getD undef;have hnl:news.length=len2*i.size:=by simp[news,k2]
 have hget: ∀j,j < ys.length*i.size->∃u,news[j]? =some u/\w.cell? ⟨b2,of2+j,none⟩=some u/\hg w m b2 (of2+j)=some u/\u.oneCell'=true:=fun j hj=>by obtain⟨u,g1,g2⟩:=(Nr k5 hsz) j hj;have:=(Ub g1).2.1;exact⟨u,by simp[news,hj,this],this,g1,g2⟩
 have hlt: ∀{j:Nat} {u:Value},news[j]? =some u->j < ys.length*i.size:=fun {j u} hj=>by rcases Zt j news.length with h | h;simpa[news]using h;rw[ZF h]at hj;cases hj
 have hnews: ∀j u,news[j]? =some u->w.cell? ((⟨b2,of2,none⟩:Addr).add j)=some u:=fun j u hj=>by obtain⟨u2,p1,p2,_⟩:=hget j (hlt hj);rw[hj]at p1;cases p1;rwa[Wf]
 have hfl:=UX k5;have hbox: ∀(i0:Nat) (c:AV),(ys.flatten.map AV.strip)[i0]? =some c->∃u,news[i0]? =some u/\u.oneCell'=true/\Qh num β w m c u/\∀p w' m' ν',Yr w' m' ν' p c u:=fun i0 c hc=>by obtain⟨u,q1,q2,q3⟩:=OW k5 i0 c hc;(have hi0:i0 < ys.length*i.size:=by rw[<- hfl];rcases Zt i0 (ys.flatten.map AV.strip).length with h | h;exact h;rw[ZF h]at hc;cases hc);obtain⟨u2,p1,_,p3,_⟩:=hget i0 hi0;rw[q1]at p3;cases p3;exact⟨u,p1,q2,q3⟩
 have fresh: ∀(capN:Nat),ys.length<=capN->capN<=maxLen->next (a.put o.dst (.slice (some ⟨w.heap.size,0,none⟩) ys.length capN)) (w.drew.alloc (.cells (news.toArray ++ Builtin.zeroCells z.cells (capN - ys.length)) e)):=by intro capN hc1 hc2;obtain⟨rows,hrows⟩: ∃rows:Vw,rows=news.toArray ++ Builtin.zeroCells z.cells (capN - ys.length):=⟨_,rfl⟩;rw[<- hrows];(have hrsz:rows.size=capN*i.size:=by rw[hrows];simp only[OZ,VW,size_zeroCells,hz,hnl,<- k2];rw[<- Yk];congr 1;omega);(have hI3:=((hI1.drew).fresh rows e 0 .f).toBox (b:=w.heap.size) (cur:=rows) (e:=e) (cs:=ys.flatten.map AV.strip) (heap_alloc_new w.drew _) (by simp[Y0]) (by simp[m1]) (by rw[hfl,hrsz];exact Yy _ hc1) fun i0 c hc=>by obtain⟨u,q1,q2,q3,q4⟩:=hbox i0 c hc;have hle:Le w m (w.drew.alloc (.cells rows e)) (m1 m w.drew.heap.size 0):=(Y2.alloc (fun _=>False) w.drew m rows e 0).le;refine⟨u,?_,q2,ZU (Ge.refl β) hle c u q3,q4⟩;(have hi0:i0 < news.length:=by rcases Zt i0 news.length with h | h;exact h;rw[ZF h]at q1;cases q1);rw[hrows,Oy (by simpa using hi0)];simpa using q1);refine h _ _ _ _ _ hI3 ((Zr rfl).2 ⟨?_,trivial⟩);simp only[Qh];exact⟨_,capN,rfl,hc1,hc2,.inr ⟨⟨w.heap.size,rows.size,false⟩,⟨by rw[<- hI1.blen];simp,rfl⟩,rfl,by simp[hrsz],hsz⟩⟩
 simp only[Yr]at hown;rcases hown with⟨A2,hA2⟩ | ⟨b,capO,cur,e2,hA2,q1,q2,q3,q4⟩;injection hA2 with hA2 hA3 hA4;subst hA2 hA4;have hrun:=Rw (P:=P) (w:=w) (ty:=o.type) (base:=A) (A:=⟨b2,of2,none⟩) (n:=len2) (c:=cap2) hun hi hzz hnl hnews (by omega) (by omega) (by rw[k2]at hb;omega);have hf:=fresh (grownCap w len2 0 e) (by rw[k2];exact grownCap_ge w len2 0 e) (grownCap_le_maxLen w len2 0 e (by unfold maxLen;omega));rw[k2]at hf;exact QE (hexec _ _ hrun) hf;injection hA2 with hA2 hA3 hA4;subst hA2 hA4;simp only[Xy,Nat.zero_mul]at q3;by_cases hroom:ys.length<=cap;have hfit:0*i.size+news.length<=cur.size:=by rw[hnl,q2,<- k2,Nat.zero_mul,Z1];exact Yy _ hroom
 have hrun:=VE (P:=P) (w:=w) (ty:=o.type) (sLen:=0) (sCap:=cap) (k:=len2) (c:=cap2) hun hi q1 hnl hnews (fun u hu2=>by obtain⟨j,hj⟩:=SA hu2;obtain⟨u2,p1,_,_,p2⟩:=hget j (hlt hj);rw[hj]at p1;cases p1;exact p2) (by omega) hfit;have hfit2:0*i.size+news.length<=cur.toList.length:=by simpa using hfit
 have hS:=hI1.setFloat (cur':=(cur.toList.take (0*i.size)++ news ++ cur.toList.drop (0*i.size+news.length)).toArray) (k:=0) q1 q4 (fun j u hj hcu=>by omega) (by omega);have hm1:=RU q3;rw[hm1]at hS;have hle:=(Y2.setRow (m:=m) (cur':=(cur.toList.take (0*i.size)++ news ++ cur.toList.drop (0*i.size+news.length)).toArray) (k:=0) q1 (fun j u hj hcu=>by omega) (by omega)).le;rw[hm1]at hle;have hrs: (cur.toList.take (0*i.size)++ news ++ cur.toList.drop (0*i.size+news.length)).toArray.size=cap*i.size:=by rw[VW,Td _ _ _ hfit2];simpa using q2
 have hI3:=hS.toBox (b:=b) (e:=e2) (cs:=ys.flatten.map AV.strip) (setRow_heap w b cur _ e2 (0,0) q1) q4 q3 (by rw[hfl,hrs];exact Yy _ hroom) fun i0 c hc=>by obtain⟨u,r1,r2,r3,r4⟩:=hbox i0 c hc;refine⟨u,?_,r2,ZU (Ge.refl β) hle c u r3,r4⟩;(have hi0:i0 < news.length:=by rcases Zt i0 news.length with h | h;exact h;rw[ZF h]at r1;cases r1);rw[S2,W8 _ _ _ hfit2,Qb (by omega),Qe (by omega)];simpa using r1
 rw[<- k2]at hrun;rw[Z1]at hrun;refine QE (hexec _ _ (by rwa[<- k2])) (h _ _ _ _ _ hI3 ((Zr rfl).2 ⟨?_,trivial⟩));simp only[Qh];exact⟨_,cap,rfl,hroom,g4,.inr ⟨_,⟨by rw[<- hI1.blen];exact Yv,rfl⟩,rfl,by simp only[hrs];omega,hsz⟩⟩;have hrun:=run_append_grow (P:=P) w t o.type e i z hun hi hzz ⟨b,0,none⟩ 0 cap [] (by simp) (fun j u hj=>by simp at hj) ⟨b2,of2,none⟩ len2 cap2 news hnl hnews (by omega) (by omega) (growslice_fits (by omega) (by rwa[<- k2,Z1]));have hf:=fresh (grownCap w (0+len2) cap e) (by rw[k2];have:=grownCap_ge w (0+len2) cap e;omega) (grownCap_le_maxLen w _ cap e (by unfold maxLen;omega));rw[k2]at hf;simp only[Z1,BD]at hrun hf;exact QE (hexec _ _ hrun) hf;cases hz;cases ht;cases ht
def QpA [Dr] {b k s x E S t} (p:Inv num N w0 m0 T β0 σ a w m β ν) (Z:o.op= .call {callee:= .builtin .append,args:= #[E,S],argTypes:= #[t,t]})
  (U:Ps P t b k=true) (q:okO num s E=true) (V:okO num x S=true)
  (d:Qk K (.appg b k s x) σ=some (v,σ1)) (h:Aft num N w0 m0 T β0 σ1 a v fun u w'=>next (a.put o.dst u) w'):o.wp P a w next Q:=by
 have D: ∃y g r l u,Qk K (.appg b k s x) σ=(if g.length=0 then none else some (.gs σ.bs.length 0 k g.length,{env:=y,bs:=σ.bs ++ [g.flatten.map AV.strip]}))/\g.length*b<=140737488355328/\val σ.env x= .sl r k g/\a.eval E=u/\Inv num N w0 m0 T β0 {σ with env:=y} a w m β l/\Qh num β w m (.sl true k []) u/\Yr w m l .f (.sl true k []) u:=by cases s with | t n=>simp only[Qk]at d;split at d;rename_i O y r I g i z;simp only[Zm]at i;obtain⟨i,rfl⟩:=i;split at d;rename_i J;obtain⟨rfl,rfl,j⟩:=J;unfold okO at q;split at q;rename_i n2 t2 e;cases e;simp only[QM]at q;subst q;obtain⟨_,h2⟩:=p.at_ (n:=n) (by rw[i];simp);have G:=p.slots n _ h2;rw[i]at G;obtain⟨G,W⟩:=G;refine⟨_,g,r,_,a.eval (.tmp n),by simp only[Qk,i,z];simp[j],j,z,rfl,p.takeSlot n,G,?_⟩;have:=UU (θ:=mv (.s n) .f) W;rwa[show mv (.s n) .f (.s n)= .f by simp[mv]]at this;rename_i e;cases e;rename_i e;cases e;cases q;cases d;cases d | c vc=>simp only[Qk]at d;split at d;rename_i O y r I g i z;simp only[Zm]at i;obtain⟨rfl,rfl⟩:=i;split at d;rename_i J;obtain⟨rfl,rfl,j⟩:=J;have R:=p.val q (show(val σ.env (.c _)).ok=true from rfl);exact⟨_,g,r,ν,a.eval E,by simp only[Qk,z];simp[j],j,z,rfl,p,R.1,R.2 _⟩;cases d;cases d
 obtain⟨y,g,r,l,u,M,j,B,Y,H,X,C⟩:=D;rw[M]at d;have A:=(p.val V (by rw[B];rfl)).1;rw[B]at A;split at d;cases d;rename_i L;cases d;exact QhY Y rfl Z U j H X C A L h
def Jv:=@Nat.eq_zero_or_pos
def Po:=@getElem!_pos
def D0 {z} (h:z.all (·.oneCell')=true) (n): ∀v∈(Builtin.zeroCells z n).toList,v.oneCell'=true:=by
 intro v c;unfold Builtin.zeroCells at c;rw[Array.mem_toList_iff,Array.mem_map]at c;obtain⟨i,d,rfl⟩:=c;rw[Array.mem_range]at d;have b:i % z.size < z.size:=WU _ (by rcases Jv z.size with h | h;rw[h]at d;omega;exact h);rw[Po z _ b];rw[Array.all_eq_true]at h;exact h _ b
def S5:=@List.length_replicate
def Lu:=@List.getElem?_replicate
def VH:=@List.getElem_mem
def QtW [Dr] {sz x x' t} (hI:Inv num N w0 m0 T β0 σ a w m β ν) (ho:o.op= .call {callee:= .builtin .clear,args:= #[x'],argTypes:= #[t]}) (n:Qlc P t sz=true) (hx:okO num x x'=true)
  (d:Qk K (.clr sz x) σ=some (v,σ1)) (h:Aft num N w0 m0 T β0 σ1 a v fun u w'=>next (a.put o.dst u) w'):o.wp P a w next Q:=by
 simp only[Qk]at d;split at d;rename_i H X l k hA;split at d;rename_i hc;obtain⟨rfl,h0⟩:=hc;have G:=(hI.val hx (by rw[hA];rfl)).1;rw[hA]at G;simp only[Qh]at G;obtain⟨A,cap,G,g3,g4,D⟩:=G;unfold Qlc at n;split at n;rename_i e I;split at n;rename_i i f;split at n;rename_i z hz;simp only[Qr,QM]at n;obtain⟨hzs,hz1⟩:=n;have E: ∀w:World,(zeroValue e).run P w= .ok z w:=fun w=>by simp[zeroValue,typeInfo,f,hz]
 split at d;rename_i r;injection d with d;injection d with h1 h2;subst h1 h2 r;refine QE (u:= .tuple #[]) (w':=w) ?_ (h _ w m β ν hI trivial);cases A <;> simp[execOp,ho,resolve,invoke,builtin,G,Builtin.clear_,run_underlying I];rename_i r;rcases j:σ.bs[H]? with _ | V;rw[j]at d;cases d;rw[j]at d;simp only[QO]at d;split at d;rename_i hl;cases d;rcases D with D | ⟨⟨b,bz,bmp⟩,D,rfl,g6,_⟩;exact absurd D.1 r;have hkm:=TK (Ph r) h0;have B:V≠[]:=fun e=>by rw[e]at hl;simp only[Xy]at hl;omega
 obtain⟨s,e2,hb,⟨L,hzl⟩,Y,J⟩:=hI.setG (cs':=put V X (List.replicate (k*l) .undef)) H j D B;simp only at hb L hzl G;obtain⟨g,q⟩: ∃g,g=(Builtin.zeroCells z.cells k).toList:=⟨_,rfl⟩;have hzlen:g.length=k*l:=by rw[q,OY,size_zeroCells,hzs]
 have y: ∀v∈g,v.oneCell'=true:=fun v hv=>D0 hz1 k v (by rwa[<- q]);have Z:=run_storeCells_at P b X e2 g 0 s w hb (by omega) y;simp only[Pn]at Z;obtain⟨k2,O⟩: ∃k2,k=k2+1:=⟨k - 1,by omega⟩;have M: (execOp a.eval o).run P w= .ok (.value (.tuple #[])) (w.setRow b (s.toList.take X ++ g ++ s.toList.drop (X+g.length)).toArray):=by rw[O]at q;simp only[execOp,ho,resolve,invoke,builtin,LC,ZI,Vv,G,Sem.run_bind,Sem.run_pure,Result.andThen_ok];simp[Builtin.clear_,run_underlying I,E,O,<- q,Z]
 have U:X+ (List.replicate (k*l) AV.undef).length<=V.length:=by rwa[S5]
 have C:=R4 (cs:=V) (vs:=List.replicate (k*l) AV.undef) (cur:=s) (us:=g) (by omega) U (by rwa[S5]) (R:=fun i c u=>u.oneCell'=true/\Qh num β w m c u/\Yr w m ν (.gc H i) c u) (S:=fun _ c u=>u.oneCell'=true/\c= .undef) Y (fun i c f=>by rw[Lu]at f;split at f;rename_i hik;injection f with f;(have:i < g.length:=by omega);exact⟨g[i],Q0 this,y _ (VH _),f.symm⟩;cases f);refine QE M (h _ _ m β _ (J (fun p=>p) _ (fun _=>rfl) (fun _ _=>rfl) (fun _=>rfl) (fun _ _=>rfl) ?_ ?_ ?_) trivial);exact C.1.trans L;rwa[PI _ _ _ U];intro i c f;obtain⟨u,q1,q2⟩:=C.2 i c f;refine⟨u,q1,?_⟩;have W:ν b≠some (.gc H i):=by obtain⟨_,_,_,_,_,hν,_⟩:=(hI.boxes H V _ j D.1 B).1 D.2;rw[hν];simp
 rcases q2 with⟨k1,k3,k4⟩ | ⟨_,_,k1,rfl⟩;exact⟨k1,k3,_,k4,rfl,W⟩;exact⟨k1,by simp only[Qh];exact k1,.gc H i,trivial,rfl,W⟩;cases d;cases n;cases n;cases n;cases d;cases d
end
end Go.Am
