/-
  AmA, Am11, Am12.
-/
import Derived.Test.YthlnfdbbneaelaaGreatDoorG04
set_option linter.all false
namespace Go.Am
section
variable {P:Program} {num:Nat->Option Nat} {β:List Blk} {w w':World} {m:Nat->Nat} {ν:Own} {N:Nat} {w0:World} {m0:Nat->Nat} {T:Nat->Prop} {β0:List Blk} {σ σ1:St} {a:Act}
 {o:Oper} {next:Act->World->Prop} {Q:Exit->Act->World->Prop} {K:Vd} {v:AV}
structure QwI (num:Nat->Option Nat) (β:List Blk) (w:World) (m:Nat->Nat) (b2 of2 len:Nat) (ys:List AV) (news:List Value):Prop where
 nl:news.length=len
 at_: ∀j u,news[j]? =some u->w.cell? ⟨b2,of2+j,none⟩=some u
 one: ∀u∈news,u.oneCell'=true
 yl:ys.length=len
 rep: ∀(j:Nat) (c:AV),ys[j]? =some c->∃u,news[j]? =some u/\u.oneCell'=true/\Qh num β w m c u/\∀p w' m' ν',Yr w' m' ν' p c u
def QmQ [Dr] (hI:Inv num N w0 m0 T β0 σ a w m β ν) {Z n x ys Y} (G:0 < Z) (r:XR Z x σ.bs=some (n,ys)) (L:Qh num β w m x Y):
  ∃A H,Y= .slice A n H/\(0 < n->∃B h b,A=some ⟨B,h,none⟩/\QwI num β w m B h (n*Z) ys b):=by
 unfold XR at r;split at r;rename_i ow f I;split at r;rename_i he;subst he;simp only[QV,Zm]at r;obtain⟨rfl,rfl⟩:=r;simp only[Qh]at L;obtain⟨A,len,z,rfl,h2,h3,h4,s⟩:=L;subst h2;refine⟨A,z,rfl,fun hn=> ?_⟩;rcases s with s | ⟨B,h,rfl,s⟩;grind;obtain⟨b,i⟩: ∃b:WM,b=(List.range (I.length*f)).map fun j=>(w.cell? ⟨B,h+j,none⟩).getD undef:=⟨_,rfl⟩;have C:b.length=I.length*f:=by grind
 have l: ∀j,j < I.length*f->∃u,b[j]? =some u/\w.cell? ⟨B,h+j,none⟩=some u/\hg w m B (h+j)=some u/\u.oneCell'=true:=fun j g=>by obtain⟨u,g1,g2⟩:=(Nr s G) j g;have:=(Ub g1).2.1;grind
 have U: ∀{j:Nat} {u:Value},b[j]? =some u->j < I.length*f:=fun {j u} g=>by grind
 have hfl:=UX s;refine⟨B,h,b,rfl,C,fun j u g=> ?_,fun u R=> ?_,hfl,fun j c X=> ?_⟩;grind;obtain⟨j,g⟩:=SA R;obtain⟨u2,W,_,_,p2⟩:=l j (U g);grind;obtain⟨u,q1,q2,q3⟩:=OW s j c X;have g:j < I.length*f:=by grind
 obtain⟨u2,W,_,p3,_⟩:=l j g;grind;grind;rename_i id t f k;simp only[Qh]at L;obtain⟨A,z,rfl,h3,h4,s⟩:=L;split at r;simp_all;rename_i hk;split at r;rename_i he;subst he;rcases E:σ.bs[id]? with _ | V;grind;rw[E]at r;simp only[QO]at r;split at r;rename_i hl;simp only[QV,Zm]at r;obtain⟨rfl,rfl⟩:=r;refine⟨A,z,rfl,fun hn=> ?_⟩;rcases s with s | ⟨kb,s,rfl,h6,_⟩;omega;have hkm:=TK hn G;obtain⟨q,e,W,p2,p3,p4,p5⟩:=(hI.boxes id V kb E s.1 (fun e=>by grind)).1 s.2;have hcs:t+k*f<=q.size:=by omega
 obtain⟨b,i⟩: ∃b:WM,b=(q.toList.drop t).take (k*f):=⟨_,rfl⟩;have C:b.length=k*f:=by grind
 have l: ∀{j:Nat} {u:Value},b[j]? =some u->j < k*f/\q[t+j]? =some u:=fun {j u} g=>by rw[i,Tn]at g;grind
 have D: ∀{j:Nat} {u:Value},j < k*f->q[t+j]? =some u->b[j]? =some u:=fun {j u} g R=>by rw[i,VV g,Vf];grind
 have y: ∀{j:Nat},j < k*f->∃c u,V[t+j]? =some c/\q[t+j]? =some u/\u.oneCell'=true/\Qh num β w m c u:=fun {j} g=>by(have:t+j < V.length:=by omega);obtain⟨u,O,J,S,_⟩:=p5 _ _ (Q0 this);exact⟨_,u,Q0 this,O,J,S⟩
 refine⟨kb.b,t,b,rfl,C,fun j u g=> ?_,fun u R=> ?_,by simp;omega,fun j c X=> ?_⟩;rw[cell_of_row w kb.b _ q e (0,0) W];grind;obtain⟨j,g⟩:=SA R;obtain⟨h1,h2⟩:=l g;obtain⟨_,u2,_,J,S,_⟩:=y h1;grind;obtain⟨d,M,rfl⟩:=ZE X;rw[Tn]at M;split at M;rename_i g;rw[Vf]at M;obtain⟨d2,u,O,J,S,r4⟩:=y g;rw[M]at O;cases O;exact⟨u,D g J,S,by rwa[Zg],fun p w' m' ν'=>Xr _ _ _⟩;grind;grind;grind;grind
def WJ:=@List.length_set
set_option maxHeartbeats 1000000 in
def QhX [Dr] {bytes n s s' e} {i:TypeInfo} {z:Value} {ys news} {ap:Value->Sem Value} {v2 bs2}
  (hI:Inv num N w0 m0 T β0 σ a w m β ν) (hs:okO num s s'=true) (hby:0 < i.bytes) (hbe:i.bytes=bytes) (hsz:0 < i.size) (hz:z.cells.size=i.size) (hm:Qe1 bytes i.size (val σ.env s) (n,ys) σ.bs=some (v2,bs2))
  (hnl:news.length=n*i.size) (hone: ∀u∈news,u.oneCell'=true)
  (hN:0 < n->ys.length=n*i.size/\∀(j:Nat) (c:AV),ys[j]? =some c->∃u,news[j]? =some u/\u.oneCell'=true/\Qh num β w m c u/\∀p w' m' ν',Yr w' m' ν' p c u)
  (hexec: ∀A k cap,a.eval s'= .slice A k cap->∀r w',(ap (.slice A k cap)).run P w= .ok r w'->(execOp a.eval o).run P w= .ok (.value r) w')
  (q0:n=0->∀A k cap,k<=cap->(ap (.slice A k cap)).run P w= .ok (.slice A k cap) w)
  (q1:0 < n->∀A,(n:Int)<=9223372036854775807->n*i.bytes<=281474976710656->(ap (.slice A 0 0)).run P w= .ok (.slice (some ⟨w.heap.size,0,none⟩) n (grownCap w n 0 e)) (w.drew.alloc (.cells (news.toArray ++ Builtin.zeroCells z.cells (grownCap w n 0 e - n)) e)))
  (q2:0 < n->∀g cur e2 sLen sCap,w.heap[g]? =some (.cells cur e2 (0,0))->sLen+n<=sCap->sLen*i.size+news.length<=cur.size->(n:Int)<=9223372036854775807->n*i.bytes<=281474976710656->
   (ap (.slice (some ⟨g,0,none⟩) sLen sCap)).run P w= .ok (.slice (some ⟨g,0,none⟩) (sLen+n) sCap) (w.setRow g (cur.toList.take (sLen*i.size)++ news ++ cur.toList.drop (sLen*i.size+news.length)).toArray))
  (q3:0 < n->∀(b:Addr) sLen sCap (olds:WM),olds.length=sLen*i.size->(∀j v,olds[j]? =some v->w.cell? (b.add j)=some v)->sCap < sLen+n->((sLen+n:Nat):Int)<=9223372036854775807->n*i.bytes<=281474976710656->Builtin.nextslicecap (sLen+n) sCap*i.bytes<=281474976710656->
   (ap (.slice (some b) sLen sCap)).run P w= .ok (.slice (some ⟨w.heap.size,0,none⟩) (sLen+n) (grownCap w (sLen+n) sCap e))
    (w.drew.alloc (.cells (olds.toArray ++ news.toArray ++ Builtin.zeroCells z.cells (grownCap w (sLen+n) sCap e - (sLen+n))) e)))
  (h:Aft num N w0 m0 T β0 {σ with bs:=bs2} a v2 fun u w'=>next (a.put o.dst u) w'):o.wp P a w next Q:=by
 subst hbe;unfold Qe1 at hm;split at hm;rename_i id o1 sz1 k hA;simp only at hm;split at hm;rename_i hcond;obtain⟨_,hb⟩:=hcond;have hr:=(hI.val hs (by rw[hA];rfl)).1;rw[hA]at hr;have hr0:=hr;simp only[Qh]at hr;obtain⟨A,cap,hu,g3,g4,g5⟩:=hr;have hexec:=hexec _ _ _ hu;have hsmall:=Y8 (Jq _ hby) hb;have hb2:n*i.bytes<=281474976710656:=by grind
 by_cases hn0:n=0;rw[Qe hn0]at hm;subst hn0;simp only[QV,Zm]at hm;obtain⟨rfl,rfl⟩:=hm;refine QE (hexec _ _ (q0 rfl _ _ _ g3)) (h _ w m β ν hI ((Zr rfl).2 ⟨?_,trivial⟩));grind;rw[Qb hn0]at hm;have hn:=Ph hn0;obtain⟨hyl,hbox⟩:=hN hn;have fresh: ∀(σ2:St) (ν2:Own) (olds:WM) (co:Qx) (kk capN:Nat),Inv num N w0 m0 T β0 σ2 a w m β ν2->olds.length=kk*i.size->co.length=kk*i.size->(∀(j:Nat) (c:AV),co[j]? =some c->∃u,olds[j]? =some u/\u.oneCell'=true/\Qh num β w m c u/\∀p w' m' ν',Yr w' m' ν' p c u)->kk+n<=capN->capN<=maxLen->Aft num N w0 m0 T β0 {σ2 with bs:=σ2.bs ++ [co ++ ys]} a (.gs σ2.bs.length 0 i.size (kk+n)) (fun u w'=>next (a.put o.dst u) w')->next (a.put o.dst (.slice (some ⟨w.heap.size,0,none⟩) (kk+n) capN)) (w.drew.alloc (.cells (olds.toArray ++ news.toArray ++ Builtin.zeroCells z.cells (capN - (kk+n))) e)):=by intro σ2 ν2 olds co kk capN hI0 hol hcl hco hc1 hc2 hh;obtain⟨rows,hrows⟩: ∃rows:Vw,rows=olds.toArray ++ news.toArray ++ Builtin.zeroCells z.cells (capN - (kk+n)):=⟨_,rfl⟩;rw[<- hrows];(have hrsz:rows.size=capN*i.size:=by rw[hrows];simp only[OZ,VW,size_zeroCells,hz,hnl,hol];rw[<- Yk,<- Yk];congr 1;omega);have hle:Le w m (w.drew.alloc (.cells rows e)) (m1 m w.drew.heap.size 0):=(Y2.alloc (fun _=>False) w.drew m rows e 0).le;(have hI3:=((hI0.drew).fresh rows e 0 .f).toBox (b:=w.heap.size) (cur:=rows) (e:=e) (cs:=co ++ ys) (heap_alloc_new w.drew _) (by simp[Y0]) (by simp[m1]) (by rw[Zl,hcl,hyl,hrsz,<- Yk];exact Yy _ hc1) fun i0 c hc=>by by_cases hi0:i0 < co.length;rw[Y3 hi0]at hc;obtain⟨u,q1,q2,q3,q4⟩:=hco i0 c hc;refine⟨u,?_,q2,ZU (Ge.refl β) hle c u q3,q4⟩;rw[hrows,BC,Oy (by simp;omega)];simpa using q1;rw[Yq (by omega)]at hc;obtain⟨u,q1,q2,q3,q4⟩:=hbox _ c hc;refine⟨u,?_,q2,ZU (Ge.refl β) hle c u q3,q4⟩;(have hlt:i0 - co.length < news.length:=by rcases Zt (i0 - co.length) news.length with h | h;exact h;rw[ZF h]at q1;cases q1);rw[hrows,Oy (by simp;omega),Bn (by simp;omega)];rw[show i0 - olds.toArray.size=i0 - co.length by simp;omega];simpa using q1);refine hh _ _ _ _ _ hI3 ((Zr rfl).2 ⟨?_,trivial⟩);simp only[Qh];exact⟨_,capN,rfl,hc1,hc2,.inr ⟨⟨w.heap.size,rows.size,false⟩,⟨by rw[<- hI0.blen];simp,rfl⟩,rfl,by simp[hrsz],hsz⟩⟩
 by_cases hz0:sz1=0/\k=0;rw[Qe hz0]at hm;obtain⟨rfl,rfl⟩:=hz0;simp only[QV,Zm]at hm;obtain⟨rfl,rfl⟩:=hm;have hcap:cap=0:=by omega
 subst hcap;have hrun:=q1 hn A (by omega) hb2;have hf:=fresh σ ν [] [] 0 (grownCap w n 0 e) hI (by simp) (by simp) (fun j c hj=>by simp at hj) (by rw[Z1];exact grownCap_ge w n 0 e) (grownCap_le_maxLen w n 0 e (by unfold maxLen;omega)) (by simpa using h);simp only[Z1,BD]at hf;exact QE (hexec _ _ hrun) hf;rw[Qb hz0]at hm;split at hm;rename_i hzz1;obtain⟨rfl,rfl⟩:=hzz1;rcases hbs:σ.bs[id]? with _ | cs;rw[hbs]at hm;cases hm;rw[hbs]at hm;simp only[QO]at hm;split at hm;rename_i hcc;obtain⟨hne,hcl⟩:=hcc;have htied: ∃kb:Blk,(β[id]? =some kb/\kb.mp=false)/\A=some ⟨kb.b,0,none⟩/\cap*i.size=kb.z:=by rcases g5 with⟨q1,q2,q3⟩ | ⟨kb,q1,q2,q3,_⟩;rcases q3 with q3 | ⟨kb,q3,q4⟩;omega;exfalso;obtain⟨cur,e2,p1,p2,_⟩:=(hI.boxes id cs kb hbs q3.1 hne).1 q3.2;(have:cs.length=0:=by omega);exact hne (Yu this);exact⟨kb,q1,q2,by omega⟩
 obtain⟨kb,hkb,rfl,hcz⟩:=htied;by_cases hin: (k+n)*i.size<=cs.length;rw[Qe hin]at hm;simp only[QV,Zm]at hm;obtain⟨rfl,rfl⟩:=hm;obtain⟨cur,e2,hbk,⟨hzc,hzl⟩,hcur,hfin⟩:=hI.setG (cs':=put cs (k*i.size) ys) id hbs hkb hne;have hroom:k+n<=cap:=by(have: (k+n)*i.size<=cap*i.size:=by omega);exact Nat.le_of_mul_le_mul_right this hsz
 have hkn: (k+n)*i.size=k*i.size+n*i.size:=Yk _ _ _;have hrun:=q2 hn _ _ _ _ _ hbk hroom (by omega) (by omega) hb2;have hpl:k*i.size+ys.length<=cs.length:=by omega
 have hrow:=R4 (cs:=cs) (vs:=ys) (cur:=cur) (us:=news) (by omega) hpl (by omega) (R:=fun j c u=>u.oneCell'=true/\Qh num β w m c u/\Yr w m ν (.gc id j) c u) (S:=fun _ c u=>u.oneCell'=true/\Qh num β w m c u/\∀p w' m' ν',Yr w' m' ν' p c u) hcur hbox;refine QE (hexec _ _ hrun) (h _ _ m β _ (hfin (fun p=>p) _ (fun _=>rfl) (fun _ _=>rfl) (fun _=>rfl) (fun _ _=>rfl) ?_ ?_ ?_) ((Zr rfl).2 ⟨?_,trivial⟩));omega;rwa[PI _ _ _ hpl];intro j c hj;obtain⟨u,q1,q2⟩:=hrow.2 j c hj;refine⟨u,q1,?_⟩;have hneν:ν kb.b≠some (.gc id j):=by obtain⟨_,_,_,_,_,hν,_⟩:=(hI.boxes id cs _ hbs hkb.1 hne).1 hkb.2;rw[hν];simp
 rcases q2 with⟨k1,k3,k4⟩ | ⟨_,_,k1,k3,k4⟩;exact⟨k1,k3,_,k4,rfl,hneν⟩;exact⟨k1,k3,.gc id j,k4 _ _ _ _,rfl,hneν⟩;simp only[Qh];exact⟨_,cap,rfl,hroom,g4,.inr ⟨kb,hkb,rfl,by omega,hsz⟩⟩;rw[Qb hin]at hm;simp only[QV,Zm]at hm;obtain⟨rfl,rfl⟩:=hm;obtain⟨cur,e2,p1,p2,p3,p4,p5⟩:=(hI.boxes id cs kb hbs hkb.1 hne).1 hkb.2;obtain⟨hK,_⟩:=hI.kill (id:=id) (q:=0) hbs hkb hne;rw[RU p3]at hK;have hco: ∀(j:Nat) (c:AV),((cs.take (k*i.size)).map AV.strip)[j]? =some c->∃u,(cur.toList.take (k*i.size))[j]? =some u/\u.oneCell'=true/\Qh num β w m c u/\∀p w' m' ν',Yr w' m' ν' p c u:=fun j c hc=>by obtain⟨d,hd,rfl⟩:=ZE hc;rw[Tn]at hd;split at hd;rename_i hj;obtain⟨u,r1,r2,r3,_⟩:=p5 j d hd;exact⟨u,by rw[VV hj];simpa using r1,r2,by rwa[Zg],fun _ _ _ _=>Xr _ _ _⟩;cases hd
 have hol: (cur.toList.take (k*i.size)).length=k*i.size:=by rw[Ye,OY];omega
 have hcol: ((cs.take (k*i.size)).map AV.strip).length=k*i.size:=by rw[UD,Ye];omega
 by_cases hroom:k+n<=cap;have hkn: (k+n)*i.size=k*i.size+n*i.size:=Yk _ _ _;have hcn: (k+n)*i.size<=cap*i.size:=Yy _ hroom;have hfit:k*i.size+news.length<=cur.size:=by omega
 have hfit2:k*i.size+news.length<=cur.toList.length:=by omega
 have hrun:=q2 hn _ _ _ _ _ p1 hroom hfit (by omega) hb2;have hS:=hK.setFloat (cur':=(cur.toList.take (k*i.size)++ news ++ cur.toList.drop (k*i.size+news.length)).toArray) (k:=0) p1 (by simp[Y0]) (fun j u hj hcu=>by omega) (by omega);rw[RU p3]at hS;have hle:=(Y2.setRow (m:=m) (cur':=(cur.toList.take (k*i.size)++ news ++ cur.toList.drop (k*i.size+news.length)).toArray) (k:=0) p1 (fun j u hj hcu=>by omega) (by omega)).le;rw[RU p3]at hle;have hrs: (cur.toList.take (k*i.size)++ news ++ cur.toList.drop (k*i.size+news.length)).toArray.size=cur.size:=by rw[VW,Td _ _ _ hfit2];simp
 have hI3:=hS.toBox (b:=kb.b) (e:=e2) (cs:=(cs.take (k*i.size)).map AV.strip ++ ys) (setRow_heap w kb.b cur _ e2 (0,0) p1) (by simp[Y0]) p3 (by rw[Zl,hcol,hyl,hrs];omega) fun i0 c hc=>by rw[Lv]at hc;split at hc;rename_i hi0;obtain⟨u,r1,r2,r3,r4⟩:=hco i0 c hc;refine⟨u,?_,r2,ZU (Ge.refl β) hle c u r3,r4⟩;rw[hcol]at hi0;rw[S2,W8 _ _ _ hfit2,Qe hi0];rwa[VV hi0]at r1;rename_i hi0;rw[hcol]at hi0 hc;obtain⟨u,r1,r2,r3,r4⟩:=hbox _ c hc;refine⟨u,?_,r2,ZU (Ge.refl β) hle c u r3,r4⟩;(have hlt:i0 - k*i.size < news.length:=by rcases Zt (i0 - k*i.size) news.length with h | h;exact h;rw[ZF h]at r1;cases r1);rwa[S2,W8 _ _ _ hfit2,Qb hi0,Qe (by omega)]
 have hI4:=hI3;simp only[WJ]at hI4;refine QE (hexec _ _ hrun) (h _ _ _ _ _ hI4 ((Zr rfl).2 ⟨?_,trivial⟩));simp only[Qh];refine⟨some ⟨kb.b,0,none⟩,cap,rfl,hroom,g4,.inr ⟨⟨kb.b,(cur.toList.take (k*i.size)++ news ++ cur.toList.drop (k*i.size+news.length)).toArray.size,false⟩,⟨by rw[<- (hI.blen)];simp,rfl⟩,rfl,?_,hsz⟩⟩;simp only[hrs];omega;have hrun:=q3 hn ⟨kb.b,0,none⟩ k cap _ hol (fun j u hj=>by rw[Wf,Z1,cell_of_row w kb.b j cur e2 (0,0) p1];rw[Tn]at hj;split at hj;simpa using hj;cases hj) (by omega) (by omega) hb2 (growslice_fits (by omega) hb);have hf:=fresh _ _ (cur.toList.take (k*i.size)) ((cs.take (k*i.size)).map AV.strip) k (grownCap w (k+n) cap e) hK hol hcol hco (grownCap_ge w _ cap e) (grownCap_le_maxLen w _ cap e (by unfold maxLen;omega)) (by simpa using h);exact QE (hexec _ _ hrun) hf;cases hm;cases hm;grind;grind
def QnU (b d s x c):appM b d s x c=(XR d x c).bind fun q=>Qe1 b d s q c:=by
 unfold appM Qe1;cases s <;> cases XR d x c <;> rfl
def Qpz [Dr] {y Y s x s' x' t} (hI:Inv num N w0 m0 T β0 σ a w m β ν) (ho:o.op= .call {callee:= .builtin .append,args:= #[s',x'],argTypes:= #[t,t]})
  (U:Ps P t y Y=true) (hs:okO num s s'=true) (hx:okO num x x'=true)
  (he:Qk K (.appM y Y s x) σ=some (v,σ1)) (h:Aft num N w0 m0 T β0 σ1 a v fun u w'=>next (a.put o.dst u) w'):o.wp P a w next Q:=by
 simp only[Qk]at he;rcases O:appM y Y (val σ.env s) (val σ.env x) σ.bs with _ | p;grind;rw[O]at he;obtain⟨v2,bs2⟩:=p;simp only[Zy,QV,Zm]at he;obtain⟨rfl,rfl⟩:=he;rw[QnU]at O;rcases C:XR Y (val σ.env x) σ.bs with _ | q;grind;obtain⟨n,ys⟩:=q;rw[C]at O;simp only[QO]at O;unfold Ps at U;split at U;rename_i e G;split at U;rename_i i hi;simp only[Qr,QM]at U;obtain⟨⟨⟨⟨rfl,rfl⟩,R⟩,hby⟩,hz⟩:=U;split at hz;rename_i z W;simp only[QM]at hz;obtain⟨B,L,hY,hN⟩:=QmQ hI R C ((hI.val hx (by unfold XR at C;split at C;rename_i h;rw[h];rfl;rename_i h;rw[h];rfl;grind)).1);obtain⟨f,hB,E,D,hN2⟩: ∃f:WM,(0 < n->∃I l,B=some ⟨I,l,none⟩/\∀j u,f[j]? =some u->w.cell? ((⟨I,l,none⟩:Addr).add j)=some u)/\f.length=n*i.size/\(∀u∈f,u.oneCell'=true)/\(0 < n->ys.length=n*i.size/\∀(j:Nat) (c:AV),ys[j]? =some c->∃u,f[j]? =some u/\u.oneCell'=true/\Qh num β w m c u/\∀p w' m' ν',Yr w' m' ν' p c u):=by by_cases J:0 < n;obtain⟨I,l,f,hb,E,d,D,hyl,S⟩:=hN J;exact⟨f,fun _=>⟨I,l,hb,fun j u hj=>by rw[Wf];grind⟩,E,D,fun _=>⟨hyl,S⟩⟩;simp_all
 refine QhX (e:=e) (z:=z) (ap:=fun s=>Builtin.append_ #[t,t] o.type #[s,.slice B n L]) hI hs hby rfl R hz O E D hN2 (fun A k cap hu r w' hrr=> ?_) (fun h0 A k cap hk=> ?_) (fun J A Z X=> ?_) (fun J g cur e2 H M hg hr hf Z X=> ?_) (fun J b H M V Z X h3 h4 h5 h6=> ?_) h;simp only[execOp,ho,resolve,invoke,builtin,LC,ZI,Vv,hu,hY,Sem.run_bind,Sem.run_pure,Result.andThen_ok,hrr];subst h0;exact PN G hi hk;obtain⟨I,l,rfl,d⟩:=hB J;exact Rw G hi W E d J Z X;obtain⟨I,l,rfl,d⟩:=hB J;exact VE G hi hg E d D hr hf;obtain⟨I,l,rfl,d⟩:=hB J;exact run_append_grow w t o.type e i z G hi W b H M V Z X ⟨I,l,none⟩ n L f E d h3 h4 h6;grind;grind;grind
def QpU [Dr] {Z x O V W g B t} (i:Inv num N w0 m0 T β0 σ a w m β ν) (ho:o.op= .slice t W g B none) (U:Uj P t Z=true) (hx:okO num x W=true)
  (z:Us num O g=true) (s:Us num V B=true)
  (f:Qk K (.slcx Z x O V) σ=some (v,σ1)) (h:Aft num N w0 m0 T β0 σ1 a v fun u w'=>next (a.put o.dst u) w'):o.wp P a w next Q:=by
 simp only[Qk]at f;split at f;rename_i J E c kn hA;split at f;rename_i S;obtain⟨rfl,r⟩:=S;rcases j:σ.bs[J]? with _ | n;grind;rw[j]at f;simp only[QO]at f;rcases k:Yh ((n.length - E) / c) kn (V.map (val σ.env))with _ | H;grind;rw[k]at f;simp only[QO]at f;rcases l:Yh H 0 (O.map (val σ.env))with _ | L;grind;rw[l]at f;cases f;have C:=(i.val hx (by rw[hA];rfl)).1;rw[hA]at C;simp only[Qh]at C;obtain⟨A,b,C,g3,g4,y⟩:=C;have Y: (n.length - E) / c<=b:=by by_cases D:n=[];simp_all;rcases y with⟨q,G,d⟩ | ⟨p,q,G,d,_⟩;rcases d with d | ⟨p,d,q4⟩;omega;obtain⟨I,R,p1,p2,_⟩:=(i.boxes J n p j d.1 D).1 d.2;(have:n.length - E=0:=by omega);simp_all;obtain⟨I,R,p1,p2,_⟩:=(i.boxes J n p j q.1 D).1 q.2;(have:n.length - E<=b*c:=by omega);exact Nat.div_le_of_le_mul (by grind)
 have hH:H<=b:=by rcases YA i s k with⟨_,rfl⟩ | ⟨_,_,h,_⟩ <;> omega
 have hL:L<=H:=by rcases YA i z l with⟨_,rfl⟩ | ⟨_,_,h,_⟩ <;> omega
 have R: (g.map a.eval=none/\L=0)\/∃M,g.map a.eval=some (.int M (L:Int)):=by rcases YA i z l with⟨rfl,rfl⟩ | ⟨y',rfl,_,M,hk⟩;simp;grind
 unfold Uj at U;split at U;rename_i e hu;refine QE (u:= .slice (if b=L then A else A.map (·.add (L*c))) (H - L) (b - L)) (w':=w) ?_ (h.same i rfl ?_ trivial);simp only[execOp,ho,C,Instr.sliceAt,Instr.slice,Sem.run_bind,run_underlying hu,Result.andThen_ok,O1];rw[US (by rcases YA i s k with⟨rfl,rfl⟩ | ⟨y',rfl,_,M,hk⟩;simp;grind) R (by omega) hL];simp only[Result.andThen_ok,Yp U];rfl;simp only[Qh];refine⟨_,_,rfl,by omega,by omega,?_⟩;by_cases hLH:b=L;left;refine⟨by omega,by omega,?_⟩;rcases y with⟨q,G,d⟩ | ⟨p,q,G,d,_⟩;grind;grind;rcases y with⟨q,G,d⟩ | ⟨p,y,rfl,g6,_⟩;omega;right;have X:L*c+ (b - L)*c=b*c:=by rw[<- Yk];grind
 exact⟨p,y,by rw[Qb (by omega)];simp[Wf],by omega,r⟩;grind;grind;grind
def HQ {l h d g b i q s} (r: (i=none/\l=0)\/∃e,i=some (.int e (l:Int)))
  (p:d<=b) (k:h<=d) (t:l<=h): (Instr.sliceBounds true g b i (some (.int q (h:Int))) (some (.int s (d:Int)))).run P w= .ok (l,h,d) w:=by
 have f: ∀(e:IntKind) (n y:Nat) (c:BoundsCode),n<=y->(Instr.sliceBound (.int e (n:Int)) y c).run P w= .ok n w:=fun e n y c u=>by simp only[Instr.sliceBound,asIntOf,Sem.run_bind,Sem.run_pure,Result.andThen_ok];simp_all
 rcases r with⟨rfl,rfl⟩ | ⟨j,rfl⟩ <;> simp only[Instr.sliceBounds,Sem.run_bind,Sem.run_pure,Result.andThen_ok,f _ _ _ _ p,f _ _ _ _ k,f _ _ _ _ t]
def QpR [Dr] {O} {x q B} {C} {J d c} {f} {t} (l:Inv num N w0 m0 T β0 σ a w m β ν) (ho:o.op= .slice t J f (some d) (some c)) (I:Uj P t O=true) (Y:okO num x J=true)
  (r:Us num C f=true) (E:okO num q d=true) (R:okO num B c=true)
  (b:Qk K (.slcc O x C q B) σ=some (v,σ1)) (h:Aft num N w0 m0 T β0 σ1 a v fun u w'=>next (a.put o.dst u) w'):o.wp P a w next Q:=by
 simp only[Qk]at b;have key: ∀(i:Nat) (A:Option Addr) (k:Nat),a.eval J= .slice A i k->i<=k->(Yh i 0 (some (val σ.env B))).bind (fun M=>(Yh M 0 (some (val σ.env q))).bind fun H=>(Yh H 0 (C.map (val σ.env))).map fun _=>(AV.undef,σ))=some (v,σ1)->o.wp P a w next Q:=by intro i A k hu hcap b;rcases z:Yh i 0 (some (val σ.env B))with _ | M;grind;rw[z]at b;simp only[QO]at b;rcases n:Yh M 0 (some (val σ.env q))with _ | H;grind;rw[n]at b;simp only[QO]at b;rcases j:Yh H 0 (C.map (val σ.env))with _ | L;grind;rw[j]at b;cases b;(have W:M<=i/\∃g,a.eval c= .int g (M:Int):=by rcases YA (x:=some B) (y:=some c) l R z with⟨h,_⟩ | ⟨X,hy,h,g,Z⟩;cases h;grind);(have S:H<=M/\∃g,a.eval d= .int g (H:Int):=by rcases YA (x:=some q) (y:=some d) l E n with⟨h,_⟩ | ⟨X,hy,h,g,Z⟩;cases h;grind);obtain⟨W,km,G⟩:=W;obtain⟨S,kh,V⟩:=S;(have hL:L<=H:=by rcases YA l r j with⟨_,rfl⟩ | ⟨_,_,h,_⟩ <;> omega);(have e2: (f.map a.eval=none/\L=0)\/∃g,f.map a.eval=some (.int g (L:Int)):=by rcases YA l r j with⟨rfl,rfl⟩ | ⟨X,rfl,_,g,Z⟩;simp;grind);unfold Uj at I;split at I;rename_i e D;refine QE (u:= .slice (if M=L then A else A.map (·.add (L*O))) (H - L) (M - L)) (w':=w) ?_ (h _ w m β ν l trivial);simp only[execOp,ho,hu,G,V,Instr.sliceAt,Instr.slice,Sem.run_bind,run_underlying D,Result.andThen_ok,Zy];rw[HQ e2 (by omega) S hL];simp only[Result.andThen_ok,Yp I];rfl;grind
 split at b;rename_i o2 U xs s;have p:=(l.val Y (by rw[s];rfl)).1;rw[s]at p;simp only[Qh]at p;grind;rename_i id of U i s;have p:=(l.val Y (by rw[s];rfl)).1;rw[s]at p;simp only[Qh]at p;grind;grind
end
end Go.Am
namespace Go.Am
def Pl.isG:Pl->Bool
 | .g _=>true
 | .gc _ _=>true
 | _=>false
def Nq (num:WL) (β:UH) (w:World) (m:Xs) (ν:Own) (bs:Qp):Prop:=
 β.length=bs.length/\(∀(i:Nat) (cs:Qx) (k:Blk),bs[i]? =some cs->β[i]? =some k->cs≠[]->La num β w m ν i k cs)
def Rl [Dr] (num:WL) (β:UH) (bs':Qp) (r:AV) (w:World) (m:Xs) (ν:Own) (e:Ending) (w':World):Prop:=
 ∃v m' β' ν',e= .returned v/\Ge β β'/\Y2 (fun b=>∃p,ν b=some p) w m w' m'/\Nq num β' w' m' ν' bs'/\r.ok=true/\Qh num β' w' m' r v/\Yr w' m' ν' .f r v/\
  ∀b p,ν' b=some p->b < w'.heap.size/\(w.heap.size<=b\/∃q,ν b=some q)/\(p.isG=true\/p= .f)
structure PX [Dr] where
 G:World->Prop
 Gb:Nat
 step: ∀(X:Nat->Prop) (w:World) (m:Nat->Nat) (w':World) (m':Nat->Nat),Y2 X w m w' m'->(∀b,X b->Gb<=b)->Gb<=w.heap.size->G w->G w'
def KOk [Dr] (P:Program) (num:WL) (Γ:PX) (K:Vd):Prop:=
 ∀(f g:Nat) (args:Qx) (bs:Qp) (r:AV) (bs':Qp),num f=some g->K f args bs=some (r,bs')->VD args=true->
  ∀(w:World) (m:Xs) (β:UH) (ν:Own) (vs:Vw),Γ.G w->Γ.Gb<=w.heap.size->vs.size=args.length->
   (∀(i:Nat) (c:AV),args[i]? =some c->∃u,vs[i]? =some u/\Qh num β w m c u)->Nq num β w m ν bs->
   (∀b p,ν b=some p->b < w.heap.size/\Γ.Gb<=b/\p.isG=true)->
   Calls P g vs w (Rl num β bs' r w m ν)
def Ue (P:Program) (num:WL):Prop:=∀(f g:Nat),num f=some g->∃fn,P.funcs[g]? =some fn/\(fn.name == "runtime.NumGoroutine")=false/\fn.body.isNone=false
section
variable {P:Program} {num:Nat->Option Nat} {β:List Blk} {w w':World} {m:Nat->Nat} {ν:Own} {N:Nat} {w0:World} {m0:Nat->Nat} {T:Nat->Prop} {β0:List Blk} {σ σ1:St} {a:Act}
 {o:Oper} {next:Act->World->Prop} {Q:Exit->Act->World->Prop} {K:Vd} {v:AV}
def OD (ν:Own):Own:=fun b=>match ν b with
 | some p=>if p.isG then some p else none
 | none=>none
def SL {ν b p} (h:OD ν b=some p):ν b=some p/\p.isG=true:=by
 unfold OD at h;split at h;split at h;rename_i q d c;cases h;exact⟨d,c⟩;cases h;cases h
def Qdv {ν b p} (h:ν b=some p) (c:p.isG=true):OD ν b=some p:=by
 unfold OD;rw[h];simp[c]
def NO (ν ν':Own):Own:=fun b=>match ν b with
 | some p=>if p.isG then ν' b else some p
 | none=>ν' b
def Qkq {i g j e d c} (h:La num β w' e d i g j) (k: ∀b p,d b=some p->c b=some p):La num β w' e c i g j:=
 V3 (Ge.refl β) (Le.refl w' e) (fun x f=>⟨rfl,rfl,k x _ f⟩) (fun _ x f=>⟨rfl,rfl,k x _ f⟩) h
def Inv.call [Dr] (A:Inv num N w0 m0 T β0 σ a w m β ν) {I r e} (h:Rl num β I r w m (OD ν) e w'):
  ∃v L s J,e= .returned v/\Inv num N w0 m0 T β0 {σ with bs:=I} a w' L s J/\Pb num s w' L J .f (fun i=> .fc i) r v:=by
 obtain⟨v,L,s,y,he,O,Z,⟨R,W⟩,V,hr,G,H⟩:=h;have Y: ∀b p,y b=some p->NO ν y b=some p:=fun b p d=>by unfold NO;rcases E:ν b with _ | q;exact d;by_cases hg:q.isG=true;simp only[hg,QT];exact d;exfalso;have n:=(A.lt b q E).1;rcases(H b p d).2.1 with g | ⟨q2,g⟩;omega;obtain⟨U,h4⟩:=SL g;rw[E]at U;cases U;exact hg h4
 refine⟨v,L,s,NO ν y,he,?_,(Zr V).2 ⟨hr,?_⟩⟩;refine A.next Z (fun b C S=> ?_) O (fun _=>False) (fun _=>True) (fun b t C _=>⟨fun⟨p,d⟩=> ?_,?_⟩) (fun b t i C _=>⟨fun⟨p,d⟩=> ?_,?_⟩) (fun _ _ _ h=>absurd trivial h) (fun _ _ _ _ h=>absurd trivial h) (fun b p d=> ?_) (fun _ _=> .inl rfl) A.out (fun _ _ h=>h.elim) R (fun _ h=>absurd trivial h) (fun i cs b _ n g X=>Qkq (W i cs b n g X) Y);obtain⟨p,d⟩:=S;exact(A.lt b p (SL d).1).2;have:=SL d;rw[C]at this;obtain⟨n,g⟩:=this;cases n;cases g;unfold NO;rw[C];rfl;have:=SL d;rw[C]at this;obtain⟨n,g⟩:=this;cases n;cases g;unfold NO;rw[C];rfl;have D: ∀q,ν b=some q->b < w'.heap.size/\(w0.heap.size<=b\/T b):=fun q z=>by have n:=A.lt b q z;have g:=Z.size;exact⟨by omega,n.2⟩
 unfold NO at d;split at d;rename_i q z;exact D q z;rename_i z;have n:=H b p d;refine⟨n.1,.inl ?_⟩;rcases n.2.1 with g | ⟨q2,g⟩;have U:=A.step.size;omega;rw[(SL g).1]at z;cases z;exact V4 (θ:=id) (fun x S=>⟨rfl,rfl,Y x _ S⟩) G
def Inv.glob [Dr] {c:PX} (e:Inv num N w0 m0 T β0 σ a w m β ν) (k:c.G w0) (d:c.Gb<=w0.heap.size) (g: ∀b,T b->c.Gb<=b):c.G w/\c.Gb<=w.heap.size/\∀b p,OD ν b=some p->b < w.heap.size/\c.Gb<=b/\p.isG=true:=by
 refine⟨c.step T w0 m0 w m e.step g d k,Y8 d e.step.size,fun b p i=> ?_⟩;obtain⟨l,j⟩:=SL i;have f:=e.lt b p l;refine⟨f.1,?_,j⟩;rcases f.2 with h | h;omega;exact g b h
def Inv.boxesOf [Dr] (e:Inv num N w0 m0 T β0 σ a w m β ν):Nq num β w m (OD ν) σ.bs:=
 ⟨e.blen,fun i g b h f d=>V3 (Ge.refl β) (Le.refl w m) (fun _ c=>⟨rfl,rfl,Qdv c rfl⟩) (fun _ _ c=>⟨rfl,rfl,Qdv c rfl⟩) (e.boxes i g b h f d)⟩
def E9 {g:Nat} {c b} (d:P.funcs[g]? =some b) (f: (b.name == "runtime.NumGoroutine")=false) (e:b.body.isNone=false):
  (callFunc g c).run P w= .ok (.enter g c) w:=by
 simp only[callFunc,Sem.run_bind,run_program,Result.andThen_ok,d,f,e,Xn,ZT,Sem.run_pure]
def Qew [Dr] {g vs c r} (q:Inv num N w0 m0 T β0 σ a w m β ν) (k:Ue P num) {f} (s:num f=some g) (b: (execOp a.eval o).run P w=(callFunc g vs).run P w)
  (l:Calls P g vs w (Rl num β c r w m (OD ν))) (h:Aft num N w0 m0 T β0 {σ with bs:=c} a r fun u w'=>next (a.put o.dst u) w'):o.wp P a w next Q:=by
 obtain⟨A,p,y,t⟩:=k f g s;unfold Oper.wp;rw[b,E9 p y t];simp only[Oper.upon];refine l.mono fun e w' x=> ?_;obtain⟨v,n,d,i,rfl,j,z⟩:=q.call x;exact h v w' n d i j z
def QaG {c b} (h:Wh num c b=true):c.length=b.length:=by
 induction c generalizing b with | nil=>cases b <;> simp[Wh]at h ⊢ | cons x c d=>rcases b with _ | ⟨y,b⟩;simp[Wh]at h;simp only[Wh,Qr]at h;simp[d h.2]
mutual
theorem QtR: ∀(a b:AV),eqV a b=true->a=b:=by
 intro a b h;cases a <;> cases b <;> simp only[eqV,Qr,QM,UG,Xn]at h <;> try rfl
 case int.int=>rw[h.1,h.2]
 case bool.bool=>rw[h]
 case str.str=>rw[h]
 case agg.agg=>rw[Ta _ _ h]
 case sl.sl=>rw[h.1.1,h.1.2,LO _ _ h.2]
 case bx.bx=>rw[Ta _ _ h]
 case gp.gp=>rw[h.1,h.2]
 case gs.gs=>rw[h.1.1.1,h.1.1.2,h.1.2,h.2]
 case rptr.rptr=>rw[Ta _ _ h]
 case fn.fn=>rw[h.1,Ta _ _ h.2]
 case tup.tup=>rw[Ta _ _ h]
 case err.err=>rw[h]
 case mp.mp=>rw[h]
 case pv.pv=>rw[h.1,Ta _ _ h.2]
 case otup.otup=>rw[h.1.1,LO _ _ h.1.2,Ta _ _ h.2]
theorem Ta: ∀(a b:List AV),Si a b=true->a=b
 | [],[],_=>rfl
 | x:: xs,y:: ys,h=>by
  simp only[Si,Qr]at h;rw[QtR x y h.1,Ta xs ys h.2]
 | [],_:: _,h=>by simp[Si]at h
 | _:: _,[],h=>by simp[Si]at h
theorem LO: ∀(a b:List (List AV)),Mq a b=true->a=b
 | [],[],_=>rfl
 | x:: xs,y:: ys,h=>by
  simp only[Mq,Qr]at h;rw[Ta x y h.1,LO xs ys h.2]
 | [],_:: _,h=>by simp[Mq]at h
 | _:: _,[],h=>by simp[Mq]at h
end
mutual
theorem Qlw: ∀a:AV,eqV a a=true:=by
 intro a;cases a <;> simp[eqV]
 case agg cs=>exact XU cs
 case sl o z xs=>exact MV xs
 case bx cs=>exact XU cs
 case rptr cs=>exact XU cs
 case fn f cs=>exact XU cs
 case tup vs=>exact XU vs
 case pv z cs=>exact XU cs
 case otup z xs vs=>exact⟨MV xs,XU vs⟩
theorem XU: ∀l:List AV,Si l l=true
 | []=>rfl
 | x:: xs=>by simp[Si,Qlw x,XU xs]
theorem MV: ∀l:List (List AV),Mq l l=true
 | []=>rfl
 | x:: xs=>by simp[Mq,XU x,MV xs]
end
def Qdq [Dr] {k} {f g:Nat} {d l H} (n:Inv num N w0 m0 T β0 σ a w m β ν) (t:Ue P num) (x:KOk P num k K) (C:k.G w0) (q:k.Gb<=w0.heap.size) (O: ∀b,T b->k.Gb<=b)
  (G:o.op= .call {callee:= .value (.func g),args:=l.toArray,argTypes:=H}) (s:num f=some g) (J:Wh num d l=true)
  (e:Qk K (.call f d) σ=some (v,σ1)) (h:Aft num N w0 m0 T β0 σ1 a v fun u w'=>next (a.put o.dst u) w'):o.wp P a w next Q:=by
 simp only[Qk]at e;split at e;rename_i j;rcases p:K f (d.map (val σ.env)) σ.bs with _ | A;rw[p]at e;cases e;obtain⟨r,D⟩:=A;rw[p]at e;cases e;obtain⟨M,R⟩:=n.vals J j;obtain⟨S,I,E⟩:=n.glob C q O;refine Qew n t s (vs:=l.toArray.map a.eval) ?_ (x f g _ _ _ _ s p j w m β (OD ν) (l.toArray.map a.eval) S I (by simp[M]) (fun i c L=> ?_) n.boxesOf E) h;simp[execOp,G,resolve,Deferred.ofValue,invoke,Act.eval];obtain⟨y,z,U,B⟩:=R i c L;exact⟨a.eval y,by simp[z],B⟩;cases e
def Qlz [Dr] {e} {f g:Nat} {c n z} (B:Inv num N w0 m0 T β0 σ a w m β ν) (p:Ue P num) (A:KOk P num e K) (s:e.G w0) (k:e.Gb<=w0.heap.size) (C: ∀b,T b->e.Gb<=b)
  (t:o.op= .call {callee:= .value (.func g),args:=n.toArray,argTypes:=z}) (D:num f=some g) (x:Wh num c n=true)
  (d:Qk K (.callq f c) σ=some (v,σ1)) (h:Aft num N w0 m0 T β0 σ1 a v fun u w'=>next (a.put o.dst u) w'):o.wp P a w next Q:=by
 refine Qdq B p A s k C t D x ?_ h;simp only[Qk]at d ⊢;split at d;rename_i i;rw[Qe i];rcases l:K f (c.map (val σ.env)) σ.bs with _ | E;rw[l]at d;cases d;obtain⟨r,y⟩:=E;rw[l]at d;simp only[QO]at d;split at d;rename_i q;have j:=LO _ _ q;cases d;subst j;rfl;cases d;cases d
def GA:=@List.all_append
def DZ {c b} (h:VD (c ++ b)=true):VD c=true/\VD b=true:=by
 unfold VD at h ⊢;rwa[GA,Qr]at h
def QlA [Dr] {s x R d q ts} (p:Inv num N w0 m0 T β0 σ a w m β ν) (hE:Ue P num) (W:KOk P num s K) (hG:s.G w0) (D:s.Gb<=w0.heap.size) (Y: ∀b,T b->s.Gb<=b)
  (Z:o.op= .call {callee:= .value R,args:=q.toArray,argTypes:=ts}) (E:okO num x R=true) (B:Wh num d q=true)
  (e:Qk K (.callv x d) σ=some (v,σ1)) (h:Aft num N w0 m0 T β0 σ1 a v fun u w'=>next (a.put o.dst u) w'):o.wp P a w next Q:=by
 simp only[Qk]at e;split at e;rename_i f k n;split at e;rename_i j;rcases I:K f (d.map (val σ.env)++ k) σ.bs with _ | rb;rw[I]at e;cases e;obtain⟨r,V⟩:=rb;rw[I]at e;cases e;have L:=(p.val E (by rw[n];rfl)).1;rw[n]at L;simp only[Qh]at L;obtain⟨g,O,M,J,H,l⟩:=L;rw[Y1]at l;obtain⟨X,S⟩:=p.vals B (DZ j).1;obtain⟨g1,U,g3⟩:=p.glob hG D Y;refine Qew p hE M (vs:=q.toArray.map a.eval ++ O) ?_ (W f g _ _ _ _ M I j w m β (OD ν) (q.toArray.map a.eval ++ O) g1 U (by simp[X,H]) (fun i c A=> ?_) p.boxesOf g3) h;simp[execOp,Z,resolve,Deferred.ofValue,invoke,J];by_cases t:i < (d.map (val σ.env)).length;rw[Y3 t]at A;obtain⟨y,z,k2,C⟩:=S i c A;exact⟨a.eval y,by rw[Oy (by simpa using(by rw[<- QaG B];simpa using t))];simp[z],C⟩;rw[Yq (by omega)]at A;obtain⟨u,z,k2,C⟩:=l _ c A;refine⟨u,?_,C⟩;have G: (d.map (val σ.env)).length=q.length:=by rw[UD,QaG B]
 rw[G]at z t;rw[Bn (by simpa using t)];simpa using z;cases e;cases e
end
end Go.Am
namespace Go.Am
def MS (pt:Nat->Nat->Nat->Bool) (q s off:Nat):Bool:=pt q s off || (decide (q=s) && decide (off=0))
def NQ (num:WL) (b:Builtin) (x:AO) (c:Call) (ty:TypeId->Bool):Bool:=
 match c with
 | ⟨.builtin b',⟨[y]⟩,⟨[t]⟩⟩=>decide (b=b') && ty t && okO num x y
 | _=>false
def Ql7 (P:Program) (num:WL) (pt:Nat->Nat->Nat->Bool) (x:AOp) (o:Op):Bool:=
 match x with
 | .mov x=>(match o with | .move y=>okO num x y | .assign y=>okO num x y | _=>false)
 | .mvs n=>(match o with | .move (.tmp t)=>decide (n=t) | .assign (.tmp t)=>decide (n=t) | _=>false)
 | .box x=>(match o with | .box _ y=>okO num x y | _=>false)
 | .alloc zs=>(match o with | .alloc t=>Nk P t zs | _=>false)
 | .gbox x=>(match o with | .box _ y=>okO num x y | _=>false)
 | .galloc zs=>(match o with | .alloc t=>Nk P t zs | _=>false)
 | .fad s off=>(match o with
  | .fieldAddr ty (.tmp q) f=>(decide (q=s) && Of P ty f off) || (List.range (off+1)).any fun o2=>pt q s o2 && Of P ty f (off - o2)
  | .indexAddr ty (.tmp q) (.const (.int _ i))=>decide (q=s) && D7 P ty i off
  | _=>false)
 | .fadr p off=>(match o with | .fieldAddr ty (.tmp q) f=>decide (p=q) && Of P ty f off | _=>false)
 | .ldf s off sz ag=>(match o with | .load t (.tmp q)=>YJ P t sz && Up P t ag && MS pt q s off | _=>false)
 | .ldfm s off=>(match o with | .load t (.tmp q)=>Up P t false && MS pt q s off | _=>false)
 | .ld p sz ag=>(match o with | .load t (.tmp q)=>decide (p=q) && YJ P t sz && Up P t ag | _=>false)
 | .ldg p sz ag=>(match o with | .load t (.tmp q)=>decide (p=q) && YJ P t sz && Up P t ag | _=>false)
 | .ldm p=>(match o with | .load t (.tmp q)=>decide (p=q) && Up P t false | _=>false)
 | .stf s off sz x=>(match o with | .store t (.tmp q) y=>YJ P t sz && okO num x y && MS pt q s off | _=>false)
 | .stn s off sz x _=>(match o with | .store t (.tmp q) y=>YJ P t sz && okO num x y && MS pt q s off | _=>false)
 | .stfm s off n=>(match o with | .store t (.tmp q) (.tmp n2)=>decide (n=n2) && YJ P t 1 && MS pt q s off | _=>false)
 | .st p sz x=>(match o with | .store t (.tmp q) y=>decide (p=q) && YJ P t sz && okO num x y | _=>false)
 | .stm p n=>(match o with | .store t (.tmp q) (.tmp n2)=>decide (p=q) && decide (n=n2) && YJ P t 1 | _=>false)
 | .bin op x y=>(match o with | .binOp op2 _ x2 y2 _=>decide (op=op2) && okO num x x2 && okO num y y2 | _=>false)
 | .eqb ne x y=>(match o with | .binOp op2 t x2 y2 _=>decide (op2=if ne then .neq else .eql) && D8 P t && okO num x x2 && okO num y y2 | _=>false)
 | .isn ne x=>(match o with | .binOp op2 t x2 (.const (.slice none 0 0)) _=>decide (op2=if ne then .neq else .eql) && slT P t && okO num x x2 | _=>false)
 | .un op x=>(match o with | .unOp op2 _ x2=>decide (op=op2) && okO num x x2 | _=>false)
 | .conv k x=>(match o with | .convert s t x2=>QlW P s t k && okO num x x2 | _=>false)
 | .call f args=>(match o with | .call ⟨.value (.func g),⟨ys⟩,_⟩=>decide (num f=some g) && Wh num args ys | _=>false)
 | .callq f args=>(match o with | .call ⟨.value (.func g),⟨ys⟩,_⟩=>decide (num f=some g) && Wh num args ys | _=>false)
 | .callv g args=>(match o with | .call ⟨.value x2,⟨ys⟩,_⟩=>okO num g x2 && Wh num args ys | _=>false)
 | .lens x=>(match o with | .call c=>NQ num .len x c (It P) | _=>false)
 | .lenl x=>(match o with | .call c=>NQ num .len x c (slT P) | _=>false)
 | .app bytes sz s x=>(match o with | .call ⟨.builtin .append,⟨[s2,x2]⟩,⟨[t,t2]⟩⟩=>FO P t t2 && Ps P t bytes sz && okO num s s2 && okO num x x2 | _=>false)
 | .appg bytes sz s x=>(match o with | .call ⟨.builtin .append,⟨[s2,x2]⟩,⟨[t,t2]⟩⟩=>FO P t t2 && Ps P t bytes sz && okO num s s2 && okO num x x2 | _=>false)
 | .zlit=>(match o with | .buildSlice t 0 ⟨[]⟩=>(match P.underlying t with | some (.slice e)=>(match P.info? e with | some i=>NE P t i.size 0 | none=>false) | _=>false) | _=>false)
 | .nilp=>(match o with | .move (.const (.pointer none))=>true | .assign (.const (.pointer none))=>true | _=>false)
 | .appzz s x=>(match o with | .call ⟨.builtin .append,⟨[s2,x2]⟩,⟨[t,t2]⟩⟩=>decide (t=t2) && (match P.underlying t with | some (.slice e)=>(match P.info? e with | some i=>Ps P t i.bytes i.size | none=>false) | _=>false) && okO num s s2 && okO num x x2 | _=>false)
 | .frz n _=>(match o with | .move (.tmp t)=>decide (n=t) | .assign (.tmp t)=>decide (n=t) | _=>false)
 | .clr sz x=>(match o with | .call c=>NQ num .clear x c (fun t=>Qlc P t sz) | _=>false)
 | .mx x y=>(match o with | .call ⟨.builtin .max,⟨[x2,y2]⟩,_⟩=>okO num x x2 && okO num y y2 | _=>false)
 | .mn x y=>(match o with | .call ⟨.builtin .min,⟨[x2,y2]⟩,_⟩=>okO num x x2 && okO num y y2 | _=>false)
 | .mksl sz parts=>(match o with | .buildSlice t n ⟨ps⟩=>decide (n=ps.length) && decide (ps.map (·.1)=List.range n) && NE P t sz n && Wh num parts (ps.map (·.2)) | _=>false)
 | .mksg sz parts=>(match o with | .buildSlice t n ⟨ps⟩=>decide (n=ps.length) && decide (ps.map (·.1)=List.range n) && NE P t sz n && Wh num parts (ps.map (·.2)) | _=>false)
 | .mkst zs parts=>(match o with | .build t ⟨ps⟩=>Qbt P num t zs parts ps | _=>false)
 | .idxa sz x i=>(match o with | .indexAddr t x2 i2=>Uj P t sz && okO num x x2 && okO num i i2 | _=>false)
 | .idx x i=>(match o with | .index t x2 i2=>It P t && okO num x x2 && okO num i i2 | _=>false)
 | .slcs x lo hi=>(match o with | .slice t x2 lo2 hi2 none=>It P t && okO num x x2 && Us num lo lo2 && Us num hi hi2 | _=>false)
 | .slcl sz x lo hi=>(match o with | .slice t x2 lo2 hi2 none=>Uj P t sz && okO num x x2 && Us num lo lo2 && Us num hi hi2 | _=>false)
 | .pick c x y=>(match o with | .pick c2 x2 y2=>okO num c c2 && okO num x x2 && okO num y y2 | _=>false)
 | .ext x i=>(match o with | .extract x2 i2=>decide (i=i2) && okO num x x2 | _=>false)
 | .mkfn f caps=>(match o with | .makeFunc (.func g) ⟨[]⟩ ⟨cs⟩=>decide (num f=some g) && Wh num caps cs | _=>false)
 | .nilck x=>(match o with | .nilCheck x2=>okO num x x2 | _=>false)
 | .fld off sz ag x=>(match o with | .field t x2 f=>QfB P t f off sz ag && okO num x x2 | _=>false)
 | .mkg bytes sz zs x=>(match o with | .makeSlice t (.tmp l) (.tmp c)=>decide (l=c) && mkT P t bytes sz zs && okO num x (.tmp l) | _=>false)
 | .mkp bytes sz zs x=>(match o with | .makeSlice t (.tmp l) (.tmp c)=>decide (l=c) && mkT P t bytes sz zs && okO num x (.tmp l) | _=>false)
 | .extm n=>(match o with | .extract (.tmp t) i=>decide (n=t) && decide (i=0) | _=>false)
 | .mkstP _ zs parts=>(match o with | .build t ⟨ps⟩=>Qbt P num t zs parts ps | _=>false)
 | .bstr x=>(match o with | .convert s t x2=>Qe6 P s t && okO num x x2 | _=>false)
 | .ldfz s off sz _ _=>(match o with | .load t (.tmp q)=>YJ P t sz && Up P t true && MS pt q s off | _=>false)
 | .appM bytes sz s x=>(match o with | .call ⟨.builtin .append,⟨[s2,x2]⟩,⟨[t,t2]⟩⟩=>FO P t t2 && Ps P t bytes sz && okO num s s2 && okO num x x2 | _=>false)
 | .stp p sz x _=>(match o with | .store t (.tmp q) y=>decide (p=q) && YJ P t sz && okO num x y | _=>false)
 | .stq p sz x _=>(match o with | .store t (.tmp q) y=>decide (p=q) && YJ P t sz && okO num x y | _=>false)
 | .slcx sz x lo hi=>(match o with | .slice t x2 lo2 hi2 none=>Uj P t sz && okO num x x2 && Us num lo lo2 && Us num hi hi2 | _=>false)
 | .slcc sz x lo hi mx=>(match o with | .slice t x2 lo2 (some hi2) (some mx2)=>Uj P t sz && okO num x x2 && Us num lo lo2 && okO num hi hi2 && okO num mx mx2 | _=>false)
 | .mkm=>(match o with | .makeMap _ none=>true | _=>false)
 | .lkm s ok x i z=>(match o with | .lookup t x2 i2 ok2=>decide (ok=ok2) && lkT P s t z && okO num x x2 && okO num i i2 | _=>false)
 | .upm s x k y=>(match o with | .mapUpdate t x2 k2 y2=>QfP P s t && okO num x x2 && okO num k k2 && okO num y y2 | _=>false)
 | .mpe s x k z=>(match o with | .mapEntry t x2 k2=>lkT P s t z && okO num x x2 && okO num k k2 | _=>false)
 | .ensf x st n _=>(match o with | .entryStore _ x2 s2 (.tmp t)=>decide (n=t) && okO num x x2 && okO num st s2 | _=>false)
def U4:=@List.ext_getElem?
def Pi:=@List.getElem?_map
def Bs:=@List.getElem?_zipIdx
def TM:=@congrArg
def Qkn {ps:List (Nat×Operand)} (h:ps.map (·.1)=List.range ps.length): (ps.map (·.2)).zipIdx.map (fun p=>(p.2,p.1))=ps:=by
 apply U4;intro i;rw[Pi,Bs,Pi];rcases c:ps[i]? with _ | p;rfl;have b:i < ps.length:=by grind
 have:=TM (fun l=>l[i]?) h;grind
section
variable {P:Program} {num:Nat->Option Nat} {β:List Blk} {w w':World} {m:Nat->Nat} {ν:Own} {N:Nat} {w0:World} {m0:Nat->Nat} {T:Nat->Prop} {β0:List Blk} {σ σ1:St} {a:Act}
 {o:Oper} {next:Act->World->Prop} {Q:Exit->Act->World->Prop} {K:Vd} {v:AV}
def Od {c q s b} (h:MS c q s b=true) (d: ∀q s b,c q s b=true->Sx a q s b):Sx a q s b\/(q=s/\b=0):=by
 unfold MS at h;grind
def WI:=@Bool.or_eq_true
def T9:=@List.any_eq_true
def O4:=@List.mem_range
def Ql9 [Dr] {Γ} (A:Inv num N w0 m0 T β0 σ a w m β ν) (hE:Ue P num) (hK:KOk P num Γ K) (hG:Γ.G w0) (hGb:Γ.Gb<=w0.heap.size) (hT: ∀b,T b->Γ.Gb<=b)
  {pt} (R: ∀q s E,pt q s E=true->Sx a q s E) {x} (d:Ql7 P num pt x o.op=true) (r:Qk K x σ=some (v,σ1))
  (h: ∀(u:Value) (w':World) (Z:Xs) (M:UH) (L:Own),Inv num N w0 m0 T β0 σ1 a w' Z M L->Pb num M w' Z L .f (fun i=> .fc i) v u->
   (∀s E,x= .fad s E->∃b,a.tmps.getD s undef= .pointer (some ⟨b,0,none⟩)/\u= .pointer (some ⟨b,E,none⟩))->next (a.put o.dst u) w'):o.wp P a w next Q:=by
 have C: (∀s E,x≠ .fad s E)->Aft num N w0 m0 T β0 σ1 a v fun u w'=>next (a.put o.dst u) w':=fun hne u w' Z M L V S=>h u w' Z M L V S fun s E e=>absurd e (hne s E);have U: (∀s E,x≠ .fad s E)->∀w' Z M L,Inv num N w0 m0 T β0 σ1 a w' Z M L->v= .undef->next (a.put o.dst undef) w':=fun hne w' Z M L V S=>h undef w' Z M L V (by subst S;exact trivial) fun s E e=>absurd e (hne s E);cases x <;> simp only[Ql7]at d;case mov x=>split at d;rename_i y j;exact QiB A (.inl j) d r (C (by simp));rename_i y j;exact QiB A (.inr j) d r (C (by simp));grind
 case mvs n=>split at d;rename_i y j;simp only[QM]at d;subst d;exact QiC A (.inl j) r (C (by simp));rename_i y j;simp only[QM]at d;subst d;exact QiC A (.inr j) r (C (by simp));grind
 case box x=>split at d;rename_i t y j;exact QtV A j d r (C (by simp));grind
 case alloc zs=>split at d;rename_i t j;exact Qlx A j d r (C (by simp));grind
 case gbox x=>split at d;rename_i t y j;exact QpH A j d r (C (by simp));grind
 case galloc zs=>split at d;rename_i t j;exact QiA A j d r (C (by simp));grind
 case fad s E=>split at d;rename_i ty q f j;(have hbx: ∃cs,σ.env s= .bx cs:=by simp only[Qk]at r;grind);obtain⟨cs,hcs⟩:=hbx;obtain⟨b,cur,e,B,D,_⟩:=A.box_at (q:=s) (off:=0) hcs (.inr ⟨rfl,rfl⟩);simp only[WI,Qr,QM,T9,O4]at d;rcases d with⟨rfl,hf⟩ | ⟨o2,ho2,hp,hf⟩;refine Qiy A j hf D r fun V S=> ?_;rw[Z1];refine h _ w m β ν V (by subst S;exact trivial) fun s2 W e=> ?_;cases e;exact⟨b,D,rfl⟩;obtain⟨b2,p1,p2⟩:=R _ _ _ hp;refine Qiy A j hf (show a.eval (.tmp q)=_ from p2) r fun V S=> ?_;rw[show o2+ (E - o2)=E by omega];refine h _ w m β ν V (by subst S;exact trivial) fun s2 W e=> ?_;cases e;grind;rename_i ty q k i j;(have hbx: ∃cs,σ.env s= .bx cs:=by simp only[Qk]at r;grind);obtain⟨cs,hcs⟩:=hbx;obtain⟨b,cur,e,B,D,_⟩:=A.box_at (q:=s) (off:=0) hcs (.inr ⟨rfl,rfl⟩);simp only[Qr,QM]at d;obtain⟨rfl,hf⟩:=d;refine QpF A j hf D r fun V S=> ?_;rw[Z1];refine h _ w m β ν V (by subst S;exact trivial) fun s2 W e=> ?_;cases e;exact⟨b,D,rfl⟩;grind
 case fadr p E=>split at d;rename_i ty q f j;simp only[Qr,QM]at d;obtain⟨rfl,hf⟩:=d;exact QpG A j hf r (C (by simp));grind
 case ldf s E G ag=>split at d;rename_i t q j;simp only[Qr]at d;exact Qt2 A j d.1.1 d.1.2 (Od d.2 R) r (C (by simp));grind
 case ldfm s E=>split at d;rename_i t q j;simp only[Qr]at d;exact QpJ A j d.1 (Od d.2 R) r (C (by simp));grind
 case ld p G ag=>split at d;rename_i t q j;simp only[Qr,QM]at d;obtain⟨⟨rfl,B⟩,D⟩:=d;exact QvZ A j B D r (C (by simp));grind
 case ldg p G ag=>split at d;rename_i t q j;simp only[Qr,QM]at d;obtain⟨⟨rfl,B⟩,D⟩:=d;exact Qt3 A j B D r (C (by simp));grind
 case ldm p=>split at d;rename_i t q j;simp only[Qr,QM]at d;obtain⟨rfl,D⟩:=d;exact Qt4 A j D r (C (by simp));grind
 case stf s E G x=>split at d;rename_i t q y j;simp only[Qr]at d;exact Qua A j d.1.1 d.1.2 (Od d.2 R) r (U (by simp));grind
 case stn s E G x zs=>split at d;rename_i t q y j;simp only[Qr]at d;exact Quc A j d.1.1 d.1.2 (Od d.2 R) r (U (by simp));grind
 case stfm s E n=>split at d;rename_i t q n2 j;simp only[Qr,QM]at d;obtain⟨⟨rfl,B⟩,D⟩:=d;exact QpV A j B (Od D R) r (U (by simp));grind
 case st p G x=>split at d;rename_i t q y j;simp only[Qr,QM]at d;obtain⟨⟨rfl,B⟩,D⟩:=d;exact Qfv A j B D r (U (by simp));grind
 case stm p n=>split at d;rename_i t q n2 j;simp only[Qr,QM]at d;obtain⟨⟨rfl,rfl⟩,B⟩:=d;exact Qub A j B r (U (by simp));grind
 case bin op x y=>split at d;rename_i op2 t H y2 Y j;simp only[Qr,QM]at d;obtain⟨⟨rfl,B⟩,D⟩:=d;exact QtU A j B D r (C (by simp));grind
 case eqb ne x y=>split at d;rename_i op2 t H y2 Y j;simp only[Qr,QM]at d;obtain⟨⟨⟨rfl,B⟩,D⟩,I⟩:=d;exact QtX A j B D I r (C (by simp));grind
 case isn ne x=>split at d;rename_i op2 t H Y j;simp only[Qr,QM]at d;obtain⟨⟨rfl,B⟩,D⟩:=d;exact Qt1 A j B D r (C (by simp));grind
 case un op x=>split at d;rename_i op2 t H j;simp only[Qr,QM]at d;obtain⟨rfl,B⟩:=d;exact Qv2 A j B r (C (by simp));grind
 case conv k x=>split at d;rename_i s t H j;simp only[Qr]at d;exact QpC A j d.1 d.2 r (C (by simp));grind
 case call f X=>split at d;rename_i g ys ts j;simp only[Qr,QM]at d;exact Qdq A hE hK hG hGb hT j d.1 d.2 r (C (by simp));grind
 case callq f X=>split at d;rename_i g ys ts j;simp only[Qr,QM]at d;exact Qlz A hE hK hG hGb hT j d.1 d.2 r (C (by simp));grind
 case callv g X=>split at d;rename_i H ys ts j;simp only[Qr]at d;exact QlA A hE hK hG hGb hT j d.1 d.2 r (C (by simp));grind
 case lens x=>split at d;rename_i c j;unfold NQ at d;split at d;rename_i b2 y t;simp only[Qr,QM]at d;obtain⟨⟨rfl,B⟩,D⟩:=d;exact QpM A j B D r (C (by simp));grind;grind
 case lenl x=>split at d;rename_i c j;unfold NQ at d;split at d;rename_i b2 y t;simp only[Qr,QM]at d;obtain⟨⟨rfl,B⟩,D⟩:=d;exact QpL A j B D r (C (by simp));grind;grind
 case app J G s x=>split at d;rename_i s2 H t Y j;simp only[Qr]at d;obtain⟨⟨⟨h0,B⟩,D⟩,I⟩:=d;exact HZ j h0 (QtT A rfl B D I r (C (by simp)));grind
 case appg J G s x=>split at d;rename_i s2 H t Y j;simp only[Qr]at d;obtain⟨⟨⟨h0,B⟩,D⟩,I⟩:=d;exact HZ j h0 (QpA A rfl B D I r (C (by simp)));grind
 case zlit=>split at d;rename_i t j;split at d;split at d;exact QpW A j d r (C (by simp));grind;grind;grind
 case nilp=>simp only[Qk,QV,Zm]at r;obtain⟨rfl,rfl⟩:=r;split at d;rename_i j;exact QE (u:= .pointer none) (w':=w) (by simp[execOp,j,Act.eval]) (h _ _ _ _ _ A ((Zr rfl).2 ⟨rfl,trivial⟩) (by simp));rename_i j;exact QE (u:= .pointer none) (w':=w) (by simp[execOp,j,Act.eval]) (h _ _ _ _ _ A ((Zr rfl).2 ⟨rfl,trivial⟩) (by simp));grind
 case appzz s x=>split at d;rename_i s2 H t Y j;simp only[Qr,QM]at d;obtain⟨⟨⟨rfl,B⟩,D⟩,I⟩:=d;split at B;split at B;exact Qly A j B D I r (C (by simp));grind;grind;grind
 case frz n G=>split at d;rename_i y j;simp only[QM]at d;subst d;exact Qiz A (.inl j) r (C (by simp));rename_i y j;simp only[QM]at d;subst d;exact Qiz A (.inr j) r (C (by simp));grind
 case clr G x=>split at d;rename_i c j;unfold NQ at d;split at d;rename_i b2 y t;simp only[Qr,QM]at d;obtain⟨⟨rfl,B⟩,D⟩:=d;exact QtW A j B D r (C (by simp));grind;grind
 case mx x y=>split at d;rename_i H y2 ts j;simp only[Qr]at d;exact Qv1 A j d.1 d.2 r (C (by simp));grind
 case mn x y=>split at d;rename_i H y2 ts j;simp only[Qr]at d;exact Qv0 A j d.1 d.2 r (C (by simp));grind
 case mksl G O=>split at d;rename_i t n ps j;simp only[Qr,QM]at d;obtain⟨⟨⟨rfl,B⟩,D⟩,I⟩:=d;have hz:=Qkn B;refine QpP (ps:=ps.map (·.2)) (t:=t) A ?_ (by grind) I r (C (by simp));grind;grind
 case mksg G O=>split at d;rename_i t n ps j;simp only[Qr,QM]at d;obtain⟨⟨⟨rfl,B⟩,D⟩,I⟩:=d;have hz:=Qkn B;refine QpO (ps:=ps.map (·.2)) (t:=t) A ?_ (by grind) I r (C (by simp));grind;grind
 case mkst zs O=>split at d;rename_i t ps j;exact Qdr A j d r (C (by simp));grind
 case idxa G x i=>split at d;rename_i t H i2 j;simp only[Qr]at d;exact QpI A j d.1.1 d.1.2 d.2 r (C (by simp));grind
 case idx x i=>split at d;rename_i t H i2 j;simp only[Qr]at d;exact Qt0 A j d.1.1 d.1.2 d.2 r (C (by simp));grind
 case slcs x lo hi=>split at d;rename_i t H lo2 hi2 j;simp only[Qr]at d;exact QpT A j d.1.1.1 d.1.1.2 d.1.2 d.2 r (C (by simp));grind
 case slcl G x lo hi=>split at d;rename_i t H lo2 hi2 j;simp only[Qr]at d;exact QpS A j d.1.1.1 d.1.1.2 d.1.2 d.2 r (C (by simp));grind
 case pick c x y=>split at d;rename_i c2 H y2 j;simp only[Qr]at d;exact QpQ A j d.1.1 d.1.2 d.2 r (C (by simp));grind
 case ext x i=>split at d;rename_i H i2 j;simp only[Qr,QM]at d;obtain⟨rfl,B⟩:=d;exact QtY A j B r (C (by simp));grind
 case mkfn f caps=>split at d;rename_i g cs j;simp only[Qr,QM]at d;exact QpN A j d.1 d.2 r (C (by simp));grind
 case nilck x=>split at d;rename_i H j;exact QlC A j d r (C (by simp));grind
 case fld E G ag x=>split at d;rename_i t H f j;simp only[Qr]at d;exact QtZ A j d.1 d.2 r (C (by simp));grind
 case mkg J G zs x=>split at d;rename_i t l c j;simp only[Qr,QM]at d;obtain⟨⟨rfl,B⟩,D⟩:=d;exact Qt6 A j B D r (C (by simp));grind
 case mkp J G zs x=>split at d;rename_i t l c j;simp only[Qr,QM]at d;obtain⟨⟨rfl,B⟩,D⟩:=d;exact Qt8 A j B D r (C (by simp));grind
 case extm n=>split at d;rename_i t i j;simp only[Qr,QM]at d;obtain⟨rfl,rfl⟩:=d;exact QpE A j r (C (by simp));grind
 case mkstP n zs O=>split at d;rename_i t ps j;exact QlB A j d r (C (by simp));grind
 case bstr x=>split at d;rename_i s Y H j;simp only[Qr]at d;exact QpB A j d.1 d.2 r (C (by simp));grind
 case ldfz s E G fo fz=>split at d;rename_i t q j;simp only[Qr]at d;exact QpK A j d.1.1 d.1.2 (Od d.2 R) r (C (by simp));grind
 case appM J G s x=>split at d;rename_i s2 H t Y j;simp only[Qr]at d;obtain⟨⟨⟨h0,B⟩,D⟩,I⟩:=d;exact HZ j h0 (Qpz A rfl B D I r (C (by simp)));grind
 case stq p G x q=>split at d;rename_i t q2 y j;simp only[Qr,QM]at d;obtain⟨⟨rfl,B⟩,D⟩:=d;(have he2:Qk K (.st p G x) σ=some (v,σ1):=by simp only[Qk]at r ⊢;grind);exact Qfv A j B D he2 (U (by simp));grind
 case stp p G x q=>split at d;rename_i t q2 y j;simp only[Qr,QM]at d;obtain⟨⟨rfl,B⟩,D⟩:=d;(have he2:Qk K (.st p G x) σ=some (v,σ1):=by simp only[Qk]at r ⊢;grind);exact Qfv A j B D he2 (U (by simp));grind
 case slcx G x lo hi=>split at d;rename_i j;simp only[Qr]at d;exact QpU A j d.1.1.1 d.1.1.2 d.1.2 d.2 r (C (by simp));grind
 case slcc G x lo hi mx=>split at d;rename_i j;simp only[Qr]at d;exact QpR A j d.1.1.1.1 d.1.1.1.2 d.1.1.2 d.1.2 d.2 r (C (by simp));grind
 case mkm=>split at d;rename_i t j;exact Qt7 A j r (C (by simp));grind
 case lkm s ok x i z=>split at d;rename_i t H i2 ok2 j;simp only[Qr,QM]at d;obtain⟨⟨⟨rfl,B⟩,D⟩,I⟩:=d;exact Qt5 A j B D I r (C (by simp));grind
 case upm s x k y=>split at d;rename_i t H S y2 j;simp only[Qr]at d;obtain⟨⟨⟨B,D⟩,I⟩,h4⟩:=d;exact Qud A j B D I h4 r (U (by simp));grind
 case mpe s x k z=>split at d;rename_i t H S j;simp only[Qr]at d;obtain⟨⟨B,D⟩,I⟩:=d;exact Qt9 A j B D I r (C (by simp));grind
 case ensf x st n G=>split at d;rename_i t H s2 Y j;simp only[Qr,QM]at d;obtain⟨⟨rfl,B⟩,D⟩:=d;exact QpD A j B D r (U (by simp));grind
end
end Go.Am
