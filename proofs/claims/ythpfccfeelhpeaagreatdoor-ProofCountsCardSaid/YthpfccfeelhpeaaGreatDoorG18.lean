/-
  Pf2, Pf3, Pf4, AmMemo, PfMD.
-/
import Derived.Test.YthpfccfeelhpeaaGreatDoorG16
import Derived.Test.YthpfccfeelhpeaaGreatDoorG15
import Derived.KernelRfl
set_option linter.all false
open Go.Am.F
namespace Go.Am
set_option maxRecDepth 20000
def YC (prev:Int):Qv->Qv
 | []=>[]
 | x:: l=>if x=prev then YC x l else x:: YC x l
def Vg:Qv->Qv
 | []=>[]
 | x:: l=>x:: YC x l
def TO (a b:Qv):QK (a ++ b)=QK a ++ QK b:=by simp[QK]
def RG (D:Qv) (t:Qd):ZZ (QK D ++ t) 0 1 D.length=QZ D:=by
 apply U9;intro i;simp only[ZZ,QM,VK,Y2,QZ];by_cases h:i < D.length
 ·rw[U8 h,Ze h];have h1: (QK D ++ t)[i]? =some (.int .i64 D[i]):=by
   rw[Zt (by rw[ZP];exact h)];simp[QK,h]
  have h2: ((QK D ++ t).drop i).take 1=[.int .i64 D[i]]:=by
   have hl:i < (QK D ++ t).length:=by simp[QK];omega
   rw[HZ hl];rw[Ze hl]at h1;injection h1 with h1
   rw[h1];rfl
  simp only[Qt,h2];rfl
 ·rw[QF (by simpa using h),QF (by simpa using h)];rfl
def Re {l pre post:Qv} {x:Int} (h:l=pre ++ x:: post) {k:Nat} (hk:k=pre.length): (QK l)[k]? =some (.int .i64 x):=by
 subst h hk;simp[QK]
def HY:=@List.take_append_of_le_length
def GM {l pre post:Qv} {x:Int} (y:Int) (h:l=pre ++ x:: post): (QK l).take pre.length ++ (.int .i64 y:: (QK l).drop (pre.length+1))=QK (pre ++ y:: post):=by
 subst h;have h1: (QK (pre ++ x:: post)).take pre.length=QK pre:=by
  rw[TO,HY (by rw[ZP];exact Zd _),XS (by rw[ZP];exact Zd _)]
 have h2: (QK (pre ++ x:: post)).drop (pre.length+1)=QK post:=by
  rw[show pre ++ x:: post=(pre ++ [x])++ post by simp,TO,List.drop_append_of_le_length (by rw[ZP];simp),U4 (by rw[ZP];simp)];rfl
 rw[h1,h2,TO];rfl
def DJ (B:Qe) (id n:Nat) (D:Qv) (c:Qd) (hB:id < B.length) (hc:c.length=n) (hD:D.length<=n) (hn:n < 100000000) (ht:c.take D.length=QK D) (hDne:D≠[])
  (ρ:QA) (h0:ρ 0= .gs id 0 1 n) (h3:ρ 3= .int .i64 D.length):
  R tb f746r0 ρ (B.set id c) (ZJ 1 (Ym tb f746r1 (Ym tb (.loop f746l1) (ZJ 0 (Ym tb f746r2 (Xz f746 B))))))=
   some (.sl true 1 (QZ D),B.set id []):=by
 have e1: (0:Int)<=(D.length:Int):=by omega
 have e2: (D.length:Int)<=(n:Int):=by omega
 have hl0: ¬D.length=0:=fun e=>hDne (VW e);have hg:=Tc D;have hch:=RG D;have hlen: (QK D).length=D.length:=ZP D;have hput:c.take D.length ++ (List.replicate (n - D.length) AV.undef ++ c.drop n)=QK D ++ List.replicate (n - D.length) .undef:=by
  rw[ht,U4 (by omega)];simp
 have hle:D.length+ (n - D.length)<=n:=by omega
 by_cases hz:n - D.length=0
 ·have hDn:D.length=n:=by omega
  have hcc:c=QK D:=by rw[<- ht,XS (by omega)]
  have hch0:=hch [];rw[XT]at hch0;rw[<- hcc]at hch0 hlen;have hlc:D.length<=c.length:=by omega
  generalize QZ D=E at *;simp[f746r0,h0,h3,e1,e2,hD,hz,hl0,YA,hB,hlc,hch0,hg,XS]
 ·have hchr:=hch (List.replicate (n - D.length) .undef);have hlr:D.length<=(QK D ++ List.replicate (n - D.length) AV.undef).length:=by rw[YF];omega
  rw[<- hput]at hchr hlr;generalize QZ D=E at *;have e3:D.length+ (n - D.length)=n:=by omega
  generalize hX:c.take D.length ++ (List.replicate (n - D.length) AV.undef ++ c.drop n)=X at *;simp[f746r0,h0,h3,e1,e2,e3,hD,hz,hB,hc,hX,hl0,YA,hlr,hchr,hg,XS]
def DH (B:Qe) (id n k0:Nat) (hB:id < B.length) (hn:n < 100000000): ∀(post D mid:Qv) (prev:Int) (k2:Nat) (ρ:QA),D≠[]->D.length+mid.length+1+post.length=n->k0+k2=D.length+mid.length+1->0 < k2->
   ρ 0= .gs id 0 1 n->ρ 3= .int .i64 D.length->ρ 4= .gs id k0 1 (n - k0)->ρ 5= .int .i64 k2->
  R tb (.loop f746l0) ρ (B.set id (QK (D ++ mid ++ prev:: post)))
   (ZJ 2 (Ym tb f746r0 (ZJ 1 (Ym tb f746r1 (Ym tb (.loop f746l1) (ZJ 0 (Ym tb f746r2 (Xz f746 B))))))))=
   some (.sl true 1 (QZ (D ++ YC prev post)),B.set id []):=by
 intro post
 induction post with
 | nil=>
  intro D mid prev k2 ρ hDne hl hk hk2 h0 h3 h4 h5;have hlen: (QK (D ++ mid ++ [prev])).length=n:=by rw[ZP];simp at hl ⊢;omega
  have ht: (QK (D ++ mid ++ [prev])).take D.length=QK D:=by
   rw[Xo,TO,HY (by rw[ZP];exact Zd _),XS (by rw[ZP];exact Zd _)]
  have hr:=fun ρ a b=>DJ B id n D (QK (D ++ mid ++ [prev])) hB hlen (by omega) hn ht hDne ρ a b;have hl':D.length+mid.length+1=n:=by simpa using hl
  have hnl: ¬((k2:Int) < ((n - k0:Nat):Int)):=by omega
  have hnl2: ¬(k2 < n - k0):=by omega
  rw[Q3 f746l0.eq_1];simp only[YC,XT];simp[h0,h3,h4,h5,hnl,hnl2];simp only[Xo]at hr;refine hr _ ?_ ?_ <;> simp[h0,h3]
 | cons x post IH=>
  intro D mid prev k2 ρ hDne hl hk hk2 h0 h3 h4 h5;have hlen: (QK (D ++ mid ++ prev:: x:: post)).length=n:=by rw[ZP];simp at hl ⊢;omega
  have r1: (QK (D ++ mid ++ prev:: x:: post))[k0+k2]? =some (.int .i64 x):=Re (pre:=D ++ mid ++ [prev]) (post:=post) (by simp) (by simp;omega);have r2: (QK (D ++ mid ++ prev:: x:: post))[k0+ (k2 - 1)]? =some (.int .i64 prev):=Re (pre:=D ++ mid) (post:=x:: post) (by simp) (by simp;omega);have hput: (QK (D ++ mid ++ prev:: x:: post)).take D.length ++ (.int .i64 x:: (QK (D ++ mid ++ prev:: x:: post)).drop (D.length+1))=QK ((D ++ [x])++ (mid ++ [prev]).tail ++ x:: post):=by
   obtain⟨y,m2,hy⟩: ∃y m2,mid ++ [prev]=y:: m2:=by cases mid <;> simp
   have:=GM (l:=D ++ mid ++ prev:: x:: post) (pre:=D) (post:=m2 ++ x:: post) (x:=y) x (by
    have:D ++ mid ++ prev:: x:: post=D ++ (mid ++ [prev])++ x:: post:=by simp
    rw[this,hy];simp)
   rw[hy];simpa using this
  have hw1:IntKind.i64.wrap ((k2:Int) - 1)=((k2 - 1:Nat):Int):=by rw[X9 (by omega) (by omega)];omega
  have hw2:IntKind.i64.wrap ((k2:Int)+1)=((k2+1:Nat):Int):=by rw[X9 (by simp at hl;omega) (by simp at hl;omega)];omega
  have hw3:IntKind.i64.wrap ((D.length:Int)+1)=((D.length+1:Nat):Int):=by rw[X9 (by simp at hl;omega) (by simp at hl;omega)];omega
  have hlt: (k2:Int) < ((n - k0:Nat):Int):=by simp at hl;omega
  have hlt1:k2 < n - k0:=by simp at hl;omega
  have hlt2: ((k2 - 1:Nat):Int) < ((n - k0:Nat):Int):=by simp at hl;omega
  have hlt2':k2 - 1 < n - k0:=by simp at hl;omega
  have hlt3: (D.length:Int) < (n:Int):=by simp at hl;omega
  have hlt3':D.length < n:=by simp at hl;omega
  have hb1:k0+k2+1<=n:=by simp at hl;omega
  have hb2:k0+ (k2 - 1)+1<=n:=by simp at hl;omega
  have hb3:D.length+1<=n:=by simp at hl;omega
  have hnn: (0:Int)<=((k2 - 1:Nat):Int):=by omega
  have hcast: ((k2 - 1:Nat):Int).toNat=k2 - 1:=by omega
  have ih1:=IH D (mid ++ [prev]) x (k2+1);have ih2:=IH (D ++ [x]) (mid ++ [prev]).tail x (k2+1);have htl: ((mid ++ [prev]).tail).length=mid.length:=by simp
  rw[show D ++ (mid ++ [prev])++ x:: post=D ++ mid ++ prev:: x:: post by simp]at ih1;rw[Q3 f746l0.eq_1];generalize QK (D ++ mid ++ prev:: x:: post)=c at *;generalize hkm:k2 - 1=km at *;generalize n - k0=nk at *;by_cases he:x=prev
  ·subst he;have e:YC x (x:: post)=YC x post:=by simp[YC]
   rw[e];simp[-getElem?_pos,h0,h3,h4,h5,hlt,hlt1,hlt2,hlt2',hnn,hw1,hw2,hb1,hb2,hB,hlen,r1,r2,hcast];refine ih1 _ hDne (by simp at hl ⊢;omega) (by simp;omega) (by omega) ?_ ?_ ?_ ?_ <;> simp[h0,h3,h4]
  ·have e:D ++ YC prev (x:: post)=D ++ x:: YC x post:=by simp[YC,he]
   rw[e];simp only[Xo,VH,WQ]at ih2;simp[-getElem?_pos,h0,h3,h4,h5,hlt,hlt1,hlt2,hlt2',hlt3,hlt3',hnn,hw1,hw2,hw3,hb1,hb2,hb3,hB,hlen,r1,r2,he,hcast,hput];refine ih2 _ (by simp) (by simp at hl ⊢;omega) (by simp;omega) (by omega) ?_ ?_ ?_ ?_ <;> simp[h0,h3,h4]
def DI (B:Qe) (id n:Nat) (hB:id < B.length) (hn:n < 100000000): ∀(post pre:Qv) (prev:Int) (ρ:QA),pre.length+1+post.length=n->
   ρ 0= .gs id 0 1 n->ρ 3= .int .i64 (pre.length+1:Nat)->
  R tb (.loop f746l1) ρ (B.set id (QK (pre ++ prev:: post)))
   (ZJ 0 (Ym tb f746r2 (Xz f746 B)))=some (.sl true 1 (QZ (pre ++ prev:: YC prev post)),B.set id []):=by
 intro post
 induction post with
 | nil=>
  intro pre prev ρ hl h0 h3;have hl':pre.length+1=n:=by simpa using hl
  have hnl: ¬((pre.length:Int)+1 < (n:Int)):=by omega
  rw[Q3 f746l1.eq_1];have hlen: (QK (pre ++ [prev])).length=n:=by rw[ZP];simp;omega
  have hn0: ¬n=0:=by omega
  have hch:ZZ (QK (pre ++ [prev])) 0 1 n=QZ (pre ++ [prev]):=by
   have:=RG (pre ++ [prev]) [];rw[XT]at this;rw[<- this,<- hl'];simp
  have hg:=Tc (pre ++ [prev]);simp only[YC];generalize QK (pre ++ [prev])=c at *;generalize QZ (pre ++ [prev])=e at *;simp[h0,h3,hnl,f746r2,hl',YA,hn0,hB,hlen,hch,hg,XS]
 | cons x post IH=>
  intro pre prev ρ hl h0 h3;have hl':pre.length+1+ (post.length+1)=n:=by simpa using hl
  have hlen: (QK (pre ++ prev:: x:: post)).length=n:=by rw[ZP];simp;omega
  have r1: (QK (pre ++ prev:: x:: post))[pre.length+1]? =some (.int .i64 x):=Re (pre:=pre ++ [prev]) (post:=post) (by simp) (by simp);have r2: (QK (pre ++ prev:: x:: post))[pre.length]? =some (.int .i64 prev):=Re (pre:=pre) (post:=x:: post) (by simp) rfl;have hw1:IntKind.i64.wrap (pre.length:Int)=(pre.length:Int):=X9 (by omega) (by omega);have hw2:IntKind.i64.wrap ((pre.length:Int)+1+1)=(pre.length:Int)+1+1:=X9 (by omega) (by omega);have hlt: (pre.length:Int)+1 < (n:Int):=by omega
  have hlt2: (pre.length:Int) < (n:Int):=by omega
  have hb1:pre.length+1+1<=n:=by omega
  have hb2:pre.length+1<=n:=by omega
  have hnn: (0:Int)<=(pre.length:Int)+1:=by omega
  have hle: (pre.length:Int)+1<=(n:Int):=by omega
  have hcast: ((pre.length:Int)+1).toNat=pre.length+1:=by omega
  have ih1:=IH (pre ++ [prev]) x;have ih2:=DH B id n (pre.length+1) hB hn post (pre ++ [prev]) [] x 1;simp only[Xo,VH,WQ]at ih1 ih2;rw[Q3 f746l1.eq_1];generalize QK (pre ++ prev:: x:: post)=c at *;by_cases he:x=prev
  ·subst he;have e:YC x (x:: post)=YC x post:=by simp[YC]
   rw[e];simp[-getElem?_pos,h0,h3,hlt,hlt2,hnn,hle,hw1,hw2,hb1,hb2,hB,hlen,r1,r2,hcast];refine ih2 _ (by simp) (by simp;omega) (by simp) (by omega) ?_ ?_ ?_ ?_ <;> simp[h0,h3]
  ·have e:pre ++ prev:: YC prev (x:: post)=pre ++ prev:: x:: YC x post:=by simp[YC,he]
   rw[e];simp[-getElem?_pos,h0,h3,hlt,hlt2,hnn,hle,hw1,hw2,hb1,hb2,hB,hlen,r1,r2,he,hcast,f746r1];refine ih1 _ (by simp;omega) ?_ ?_ <;> simp[h0,h3]
def DB (L:Qv) (B:Qe) (id:Nat) (hid:B[id]? =some (QK L)) (hne:L≠[]) (hn:L.length < 100000000):
  call tb 746 [.gs id 0 1 L.length] B=some (.sl true 1 (QZ (Vg L)),B.set id []):=by
 have hB:=Tf hid;have hset:B.set id (QK L)=B:=LF hid
 match L with
 | []=>exact absurd rfl hne
 | [x]=>
  have hch:ZZ (QK [x]) 0 1 1=QZ [x]:=by
   have:=RG [x] [];rw[XT]at this;exact this
  have hlen: (QK [x]).length=1:=ZP [x];have hg:=Tc [x];rw[zcc 746 rfl rfl];rw[show Vg [x]=[x] by simp[Vg,YC]];generalize QZ [x]=E at *;generalize QK [x]=c at *;simp[-getElem?_pos,f746C,YA,hid,hlen,hch,hg,hB,XS]
 | x:: y:: r=>
  have h:=DI B id (r.length+2) hB (by simpa using hn) (y:: r) [] x;rw[zcc 746 rfl rfl];simp only[WQ,hset]at h;have hge: ¬((r.length:Int)+1+1 < 2):=by omega
  simp[f746C,hge,Vg];refine h _ (by simp;omega) ?_ ?_ <;> simp
def FA (B:Qe):call tb 746 [.gs 0 0 0 0] B=some (.sl true 1 [],B):=by
 rw[zcc 746 rfl rfl];simp[f746C,YA]
def Yc (l:ZL):Qv:=(l.filter fun d=>decide (d.r=1)).map Ded.n
def TH (l:ZL): (Yc l).length<=l.length:=by
 unfold Yc;rw[Xb];exact List.length_filter_le _ _
def Jw (l:Qv):X4 (QK l)=some l:=by
 induction l with
 | nil=>rfl
 | cons x l ih=>simp only[QK,ZG]at ih ⊢;simp[X4,ih]
def Lo {x y:Int} {l:Qv}:y∈WB x l↔y=x\/y∈l:=by
 induction l with
 | nil=>simp[WB]
 | cons z l ih=>unfold WB;split <;> simp[ih];grind
def Eb {y:Int} {l:Qv}:y∈ZR l↔y∈l:=by
 induction l with
 | nil=>simp[ZR]
 | cons x l ih=>simp[ZR,Lo,ih]
def F8 (x:Int) (l:Qv): (WB x l).length=l.length+1:=by
 induction l with
 | nil=>rfl
 | cons z l ih=>unfold WB;split <;> simp[ih]
def TL (l:Qv): (ZR l).length=l.length:=by
 induction l with
 | nil=>rfl
 | cons x l ih=>simp[ZR,F8,ih]
def DA (L:Qv) (B:Qe) (id:Nat) (hid:B[id]? =some (QK L)) (hn:L.length < 100000000):
  call tb 745 [.gs id 0 1 L.length] B=some (.tup [],B.set id (QK (ZR L))):=by
 rw[Ty tb_745];have hl: (QK L).length=L.length:=ZP L;by_cases h:L.length=0
 ·have:L=[]:=VW h;subst this;simp only[S9,YH,Q9];rw[show QK (ZR [])=QK []from rfl,LF hid]
 ·have h2:L.length < 4611686018427387904:=by omega
  have h3:0+L.length<=(QK L).length:=by omega
  simp only[S9,h,h2,Zz,Q9,and_self,hid,Qn,h3,Sr,XS (Tb hl),Jw,Qt];congr 3;simp only[put,List.take_zero,WQ,QM,Xb,TL];rw[U4 (by omega),XT];rfl
def C0 (l:ZL) (o:Bool) (B0:Qe) (hl:l.length<=410):
  ∀(post pre:ZL) (v:AV) (B:Qe) (ρ:QA),l=pre ++ post->IS B0 B v (Yc pre)->ρ 3=v->ρ 6= .sl o 8 (Zo l)->ρ 7= .int .i64 l.length->ρ 8= .int .i64 pre.length->
  R tb (.loop f673l0) ρ B (ZJ 0 (Ym tb f673r0 (Xz f673 B0)))=some (.sl true 1 (QZ (Vg (ZR (Yc l)))),B0):=by
 intro post
 induction post with
 | nil=>
  intro pre v B ρ hk hI h3 h6 h7 h8;simp only[XT]at hk;subst hk;have hgl:=TH l;obtain⟨hP,hI⟩:=hI;rw[Q3 f673l0.eq_1];rcases hI with⟨h1,rfl⟩ | ⟨id,rfl,h2,hid0,hid⟩
  ·have c745:call tb 745 [.gs 0 0 0 0] B=some (.tup [],B):=by rw[Ty tb_745];rfl
   have c746:=FA B;obtain⟨M,rfl⟩:=hP;rw[h1];simp[h3,h6,h7,h8,f673r0,c745,c746,ZR,Vg,QZ]
  ·have c745:=DA _ B id hid (by omega);have hB:=Tf hid;have hid2: (B.set id (QK (ZR (Yc l))))[id]? =some (QK (ZR (Yc l))):=VY hB;have hne:ZR (Yc l)≠[]:=fun e=>h2 (VW (by rw[<- TL,e];rfl));have c746:=DB _ _ id hid2 hne (by rw[TL];omega);rw[TL]at c746;obtain⟨M,hM⟩:=(hP.set hid0 (QK (ZR (Yc l)))).set hid0 [];have hst: ((B.set id (QK (ZR (Yc l)))).set id []).take B0.length=B0:=by rw[hM];simp
   have hck:Yf B0 B0=true:=Sw B0;have hg:=Tc (Vg (ZR (Yc l)));generalize QZ (Vg (ZR (Yc l)))=E at *;generalize hB2: (B.set id (QK (ZR (Yc l)))).set id []=B2 at *;simp[h3,h6,h7,h8,f673r0,c745,c746,hst,hg]
 | cons d post IH=>
  intro pre v B ρ hk hI h3 h6 h7 h8;have hg: (Zo l)[pre.length]? =some (Zl d):=by rw[Yh,Yw hk];rfl
  have hll:=XH hk;have hw1:=wr1 pre.length (by omega);have hlt:=X5 hk;have hgl:=TH pre;have hsn:Yc (pre ++ [d])=Yc pre ++ (if d.r=1 then [d.n]else []):=by
   unfold Yc;rw[List.filter_append,MK];by_cases h:d.r=1 <;> simp[h]
  rw[Q3 f673l0.eq_1];by_cases c1:d.r=1
  ·obtain⟨v',B',ha,hI'⟩:=Qca hI d.n false (by omega);obtain⟨id,sz,rfl⟩:=Jy hI;obtain⟨id',sz',rfl⟩:=Jy hI';simp[h3,h6,h7,h8,hg,hw1,hlt,c1,ha];rw[IH (pre ++ [d]) _ B'] <;> first | (rw[hsn,c1];simpa using hI') | (simp[h6,h7,hk];done)
  ·obtain⟨id,sz,rfl⟩:=Jy hI;simp[h3,h6,h7,h8,hg,hw1,hlt,c1];rw[IH (pre ++ [d]) _ B] <;> first | (rw[hsn,Qi c1,XT];exact hI) | (simp[h3,h6,h7,hk];done)
def Dw (l:ZL) (o:Bool) (bs:Qe) (hl:l.length<=410):call tb 673 [.sl o 8 (Zo l)] bs=some (.sl true 1 (QZ (Vg (ZR (Yc l)))),bs):=by
 rw[zcc 673 rfl rfl];simp[f673C];rw[C0 l false bs hl l [] (.gs 0 0 0 0) bs] <;> simp[IS,Yc,T6]
def XB (x:Int):Qv->Qv
 | []=>[x]
 | y:: l=>if y < x then y:: XB x l else if y=x then y:: l else x:: y:: l
def ltU (x:Int):Qv->Nat
 | []=>0
 | y:: l=>if y < x then ltU x l+1 else 0
def GA (x:Int): ∀l,ltU x l<=l.length
 | []=>by simp[ltU]
 | y:: l=>by
  have:=GA x l;unfold ltU;split <;> simp;omega
def U3:=@List.getElem?_cons_succ
def KA (x:Int): ∀l,XB x l=if l[ltU x l]? =some x then l else l.take (ltU x l)++ x:: l.drop (ltU x l)
 | []=>by simp[XB,ltU]
 | y:: l=>by
  have ih:=KA x l;unfold XB ltU;by_cases h:y < x
  ·simp only[h,Q9,U3,List.take_succ_cons,Sg,VH];rw[ih];split <;> rfl
  ·by_cases h2:y=x
   ·simp[h2]
   ·simp[h,h2]
def Lq {x y:Int} {l:Qv}:y∈XB x l↔y=x\/y∈l:=by
 induction l with
 | nil=>simp[XB]
 | cons z l ih=>
  unfold XB;split
  ·simp[ih];grind
  ·split
   ·simp;grind
   ·simp
def Lf (x:Int): ∀l,(XB x l).length<=l.length+1
 | []=>by simp[XB]
 | y:: l=>by
  have:=Lf x l;unfold XB;split
  ·simp;omega
  ·split <;> simp
def Ro (x:Int): ∀l,l.Pairwise (· < ·)->(XB x l).Pairwise (· < ·)
 | [],_=>by simp[XB]
 | y:: l,h=>by
  obtain⟨h1,h2⟩:=Yo.1 h;unfold XB;split
  ·rename_i hc;refine Yo.2 ⟨fun z hz=> ?_,Ro x l h2⟩;rcases Lq.1 hz with rfl | hz
   ·exact hc
   ·exact h1 z hz
  ·split
   ·exact h
   ·rename_i hc hd;refine Yo.2 ⟨fun z hz=> ?_,h⟩;rcases ZK.1 hz with rfl | hz
    ·omega
    ·have:=h1 z hz;omega
def VB (a:Qv) (l:Qv):Qv:=l.foldl (fun a x=>XB x a) a
def Ot: ∀(l a:Qv),(VB a l).length<=a.length+l.length
 | [],a=>by simp[VB]
 | x:: l,a=>by
  have h1:=Ot l (XB x a);have h2:=Lf x a;simp only[VB,ML,Xp]at h1 ⊢;omega
def S2: ∀(l a:Qv),a.Pairwise (· < ·)->(VB a l).Pairwise (· < ·)
 | [],a,h=>h
 | x:: l,a,h=>S2 l (XB x a) (Ro x a h)
def Oh {y:Int}: ∀(l a:Qv),y∈VB a l↔y∈a\/y∈l
 | [],a=>by simp[VB]
 | x:: l,a=>by
  have h:=Oh (y:=y) l (XB x a);rw[Lq]at h;simp only[VB,ML,ZK]at h ⊢;rw[h];grind
def Xi (l:Qv):Qv:=VB [] l
def J9 (l:Qv) (x:Int):Xi (l ++ [x])=XB x (Xi l):=by simp[Xi,VB]
def Ou (l:Qv): (Xi l).length<=l.length:=by have:=Ot l [];simpa[Xi]using this
def LM (l:Qv): (Xi l).Pairwise (· < ·):=S2 l [] .nil
def GB {y:Int} (l:Qv):y∈Xi l↔y∈l:=by unfold Xi;rw[Oh];simp
def Ln {y:Int}: ∀(l:Qv) (p:Int),y∈p:: YC p l↔y∈p:: l
 | [],p=>by simp[YC]
 | x:: l,p=>by
  have ih:=Ln (y:=y) l x;unfold YC;split
  ·rename_i h;subst h;simp at ih ⊢;grind
  ·simp at ih ⊢;grind
def Rh: ∀(l:Qv) (p:Int),(p:: l).Pairwise (·<= ·)->(p:: YC p l).Pairwise (· < ·)
 | [],p,_=>by simp[YC]
 | x:: l,p,h=>by
  obtain⟨h1,h2⟩:=Yo.1 h;have ih:=Rh l x h2;unfold YC;split
  ·rename_i e;rw[<- e];exact ih
  ·rename_i e;refine Yo.2 ⟨fun z hz=> ?_,ih⟩;have hx:=h1 x (by simp);rcases ZK.1 hz with rfl | hz
   ·omega
   ·have:=(Yo.1 ih).1 z hz;omega
def LQ {l:Qv} (h:l.Pairwise (·<= ·)): (Vg l).Pairwise (· < ·):=by
 cases l with
 | nil=>exact .nil
 | cons x l=>exact Rh l x h
def Ea {y:Int} (l:Qv):y∈Vg l↔y∈l:=by
 cases l with
 | nil=>simp[Vg]
 | cons x l=>exact Ln l x
def SN (x:Int): ∀l,l.Pairwise (·<= ·)->(WB x l).Pairwise (·<= ·)
 | [],_=>by simp[WB]
 | y:: l,h=>by
  obtain⟨h1,h2⟩:=Yo.1 h;unfold WB;split
  ·rename_i hxy;refine Yo.2 ⟨fun z hz=> ?_,h⟩;rcases ZK.1 hz with rfl | hz
   ·exact hxy
   ·have:=h1 z hz;omega
  ·rename_i hxy;refine Yo.2 ⟨fun z hz=> ?_,SN x l h2⟩;rcases Lo.1 hz with rfl | hz
   ·omega
   ·exact h1 z hz
def SX: ∀l,(ZR l).Pairwise (·<= ·)
 | []=> .nil
 | x:: l=>SN x _ (SX l)
def Pu: ∀{a b:Qv},a.Pairwise (· < ·)->b.Pairwise (· < ·)->(∀y,y∈a↔y∈b)->a=b
 | [],[],_,_,_=>rfl
 | [],y:: b,_,_,h=>by have:=(h y).2 (by simp);simp at this
 | x:: a,[],_,_,h=>by have:=(h x).1 (by simp);simp at this
 | x:: a,y:: b,ha,hb,h=>by
  obtain⟨a1,a2⟩:=Yo.1 ha;obtain⟨b1,b2⟩:=Yo.1 hb;have hxy:x=y:=by
   have h1:=(h x).1 (by simp);have h2:=(h y).2 (by simp);rcases ZK.1 h1 with e | h1
   ·exact e
   ·rcases ZK.1 h2 with e | h2
    ·exact e.symm
    ·have:=b1 x h1;have:=a1 y h2;omega
  subst hxy;congr 1;refine Pu a2 b2 fun z=>⟨fun hz=> ?_,fun hz=> ?_⟩
  ·rcases ZK.1 ((h z).1 (U7 _ hz))with e | h1
   ·subst e;have:=a1 z hz;omega
   ·exact h1
  ·rcases ZK.1 ((h z).2 (U7 _ hz))with e | h1
   ·subst e;have:=b1 z hz;omega
   ·exact h1
def CZ (l:Qv):Vg (ZR l)=Xi l:=
 Pu (LQ (SX l)) (LM l) fun y=>by rw[Ea,Eb,GB]
def Qdk (l:ZL) (d:Ded) (i:Nat) (o:Bool) (bs:Qe) (out:Qv) (hi:l[i]? =some d) (hol:out.length<=410) (c:AC) (K:Kn) (X:Out):
  ∀(post pre:Qv) (ρ:QA),out=pre ++ post->ρ 0= .sl o 8 (Zo l)->ρ 3= .sl true 1 (QZ out)->ρ 4= .int .i64 i->ρ 5= .int .i64 pre.length->
   (∀ρ':QA,ρ' 0= .sl o 8 (Zo l)->ρ' 3= .sl true 1 (QZ out)->ρ' 4= .int .i64 i->ρ' 5= .int .i64 ((pre.length+ltU d.n post:Nat):Int)->R tb c ρ' bs K=X)->
  R tb (.loop f698l0) ρ bs (ZJ 2 (Ym tb c K))=X:=by
 have hg: (Zo l)[i]? =some (Zl d):=by simp[hi]
 intro post
 induction post with
 | nil=>
  intro pre ρ hk h0 h3 h4 h5 h;simp only[XT]at hk;subst hk;rw[Q3 f698l0.eq_1];simp[h0,h3,h4,h5];apply h <;> simp[h0,h3,h4,h5,ltU]
 | cons y post IH=>
  intro pre ρ hk h0 h3 h4 h5 h;have hll:=XH hk;have hy: (QZ out)[pre.length]? =some [.int .i64 y]:=by rw[X3,Yw hk];rfl
  have hw1:=wr1 pre.length (by omega);have hlt:=X5 hk;rw[Q3 f698l0.eq_1];by_cases hc:y < d.n
  ·simp[-getElem?_pos,Wc,U3,-X3,-Yh,h0,h3,h4,h5,hg,hy,hlt,hc,hw1];apply IH (pre ++ [y]) <;> try (simp[h0,h3,h4,h5,hk];done)
   intro ρ' a0 a3 a4 a5;refine h ρ' a0 a3 a4 (by rw[a5];simp[ltU,hc];omega)
  ·simp[-getElem?_pos,Wc,U3,-X3,-Yh,h0,h3,h4,h5,hg,hy,hlt,hc];apply h <;> simp[h0,h3,h4,h5,ltU,hc]
def Gd (l:Qv) (k:Nat): (QZ l).take k=QZ (l.take k):=by simp[QZ,List.map_take]
def Gc (l:Qv) (k:Nat): (QZ l).drop k=QZ (l.drop k):=by simp[QZ,List.map_drop]
def Qdm (l:ZL) (d:Ded) (i:Nat) (o:Bool) (bs:Qe) (out:Qv) (hi:l[i]? =some d) (hol:out.length<=410) (c:AC) (K:Kn) (X:Out) (ρ:QA)
  (h0:ρ 0= .sl o 8 (Zo l)) (h3:ρ 3= .sl true 1 (QZ out)) (h4:ρ 4= .int .i64 i) (h5:ρ 5= .int .i64 (ltU d.n out:Nat))
  (h: ∀ρ':QA,ρ' 0= .sl o 8 (Zo l)->ρ' 3= .sl true 1 (QZ (XB d.n out))->ρ' 4= .int .i64 i->R tb c ρ' bs K=X):
  R tb f698r0 ρ bs (ZJ 1 (Ym tb c K))=X:=by
 have hg: (Zo l)[i]? =some (Zl d):=by simp[hi]
 have hle:=GA d.n out;have hiu:=KA d.n out;generalize hk:ltU d.n out=k at *;have ht:=Gd out k;have hd:=Gc out k;have hcap1: (1+ (out.length - k))*8<=140737488355328:=by omega
 have hcap2: (min k out.length+ (1+ (out.length - k)))*8<=140737488355328:=by omega
 by_cases hc:k=out.length
 ·have hn:out[k]? =none:=QF (by omega);rw[Qi (by rw[hn];simp),XS (by omega),U4 (by omega)]at hiu;have hci: (k:Int)=(out.length:Int):=by omega
  have ht2: (QZ out).take out.length=QZ out:=XS (by simp);have hd2: (QZ out).drop out.length=[]:=U4 (by simp);have hcap3: (out.length+1)*8<=140737488355328:=by omega
  subst hc;simp[-getElem?_pos,Wc,U3,-X3,-Yh,f698r0,h0,h3,h4,h5,hg,ht2,hd2,hcap3];apply h <;> simp[h0,h4,hiu,QZ]
 ·have hkl:k < out.length:=by omega
  obtain⟨y,hy⟩: ∃y,out[k]? =some y:=⟨_,Ze hkl⟩;have hy2: (QZ out)[k]? =some [.int .i64 y]:=by simp[hy]
  have hci: ¬(k:Int)=(out.length:Int):=by omega
  rw[hy]at hiu;by_cases he:y=d.n
  ·rw[Qj (by rw[he])]at hiu;simp[-getElem?_pos,Wc,U3,-X3,-Yh,f698r0,h0,h3,h4,h5,hg,hy2,hci,hc,he];apply h <;> simp[h0,h3,h4,hiu]
  ·rw[Qi (by simpa using he)]at hiu;have hmin:min k out.length=k:=by omega
   have hk2: (k:Int)<=(out.length:Int):=by omega
   have hk3:k<=out.length:=by omega
   rw[hmin]at hcap2;have hcap4: (k+ (out.length - k+1))*8<=140737488355328:=by omega
   have ht2: (QZ out).take out.length=QZ out:=XS (by simp);have hcap5: (out.length - k+1)*8<=140737488355328:=by omega
   simp[-getElem?_pos,Wc,U3,-X3,-Yh,f698r0,h0,h3,h4,h5,hg,hy2,hci,hc,he,ht,hd,hcap1,hcap2,hcap4,hcap5,hk2,hk3,hmin,ht2];apply h <;> simp[h0,h4,hiu,QZ]
def Qdl (l:ZL) (o:Bool) (bs:Qe) (hl:l.length<=410):
  ∀(post pre:ZL) (ρ:QA),l=pre ++ post->ρ 0= .sl o 8 (Zo l)->ρ 3= .sl true 1 (QZ (Xi (Yc pre)))->ρ 4= .int .i64 pre.length->
  R tb (.loop f698l1) ρ bs (ZJ 0 (Ym tb f698r2 (Xz f698 bs)))=some (.sl false 1 (QZ (Xi (Yc l))),bs):=by
 intro post
 induction post with
 | nil=>
  intro pre ρ hk h0 h3 h4;simp only[XT]at hk;subst hk;rw[Q3 f698l1.eq_1];simp[h0,h3,h4,f698r2]
 | cons d post IH=>
  intro pre ρ hk h0 h3 h4;have hi:l[pre.length]? =some d:=Yw hk;have hg: (Zo l)[pre.length]? =some (Zl d):=by simp[hi]
  have hll:=XH hk;have hw1:=wr1 pre.length (by omega);have hlt:=X5 hk;have hgl:=TH pre;have hul:=Ou (Yc pre);have hsn:Yc (pre ++ [d])=Yc pre ++ (if d.r=1 then [d.n]else []):=by
   unfold Yc;rw[List.filter_append,MK];by_cases h:d.r=1 <;> simp[h]
  rw[Q3 f698l1.eq_1];by_cases c1:d.r=1
  ·simp[-Yh,h0,h3,h4,hg,hlt,c1];refine Qdk l d pre.length o bs (Xi (Yc pre)) hi (by omega) _ _ _ (Xi (Yc pre)) [] _ rfl ?_ ?_ ?_ ?_ ?_ <;> try (simp[h0,h3,h4];done)
   intro ρ' a0 a3 a4 a5;refine Qdm l d pre.length o bs (Xi (Yc pre)) hi (by omega) _ _ _ ρ' a0 a3 a4 (by simpa using a5) ?_;intro ρ2 b0 b3 b4;simp[f698r1,b4,hw1];rw[IH (pre ++ [d])] <;> first | (rw[hsn,Qj c1,J9];simp[b3];done) | (simp[b0,hk];done)
  ·simp[-Yh,h0,h3,h4,hg,hlt,c1,f698r1,hw1];rw[IH (pre ++ [d])] <;> first | (rw[hsn,Qi c1];simp[h3];done) | (simp[h0,hk];done)
def Dz (l:ZL) (o:Bool) (bs:Qe) (hl:l.length<=410):call tb 698 [.sl o 8 (Zo l)] bs=some (.sl false 1 (QZ (Xi (Yc l))),bs):=by
 rw[zcc 698 rfl rfl];simp[f698C];rw[Qdl l false bs hl l []] <;> simp[Xi,VB,Yc,QZ]
def Qby (l:Qv) (o1 o2:Bool) (bs:Qe) (hl:l.length<=1000000):
  ∀(post pre:Qv) (ρ:QA),l=pre ++ post->ρ 0= .sl o1 1 (QZ l)->ρ 1= .sl o2 1 (QZ l)->ρ 12= .int .i64 l.length->ρ 13= .int .i64 pre.length->
  R tb (.loop f695l0) ρ bs (ZJ 0 (Ym tb f695r0 (Xz f695 bs)))=some (.bool true,bs):=by
 intro post
 induction post with
 | nil=>
  intro pre ρ hk h0 h1 h12 h13;simp only[XT]at hk;subst hk;rw[Q3 f695l0.eq_1];simp[h0,h1,h12,h13,f695r0]
 | cons x post IH=>
  intro pre ρ hk h0 h1 h12 h13;have hll:=XH hk;have hx: (QZ l)[pre.length]? =some [.int .i64 x]:=by rw[X3,Yw hk];rfl
  have hw1:=wr1 pre.length (by omega);have hlt:=X5 hk;rw[Q3 f695l0.eq_1];simp[-X3,h0,h1,h12,h13,hx,hlt,hw1];rw[IH (pre ++ [x])] <;> simp[h0,h1,h12,hk]
def Fz (l:Qv) (o1 o2:Bool) (bs:Qe) (hl:l.length<=1000000):call tb 695 [.sl o1 1 (QZ l),.sl o2 1 (QZ l)] bs=some (.bool true,bs):=by
 rw[zcc 695 rfl rfl];simp[f695C];rw[Qby l false false bs hl l []] <;> simp
def Pj (l:ZL) (h0:call tb 633 [] []=some (.bool true,[])) (hl:l.length<=1172812402961):call tb 632 [.sl false 8 (Zo l)] []=some (.bool true,[]):=by
 have h1:=Dx l false [] hl;rw[zcc 632 rfl rfl];cases hf:M2 l
 ·rw[hf]at h1;simp[f632C,h0,h1]
 ·rw[hf]at h1;have hll:=Cm hf;have c1:=Dv l false [] hll;have c2:=Dy l false [] hll;have c3:=Dw l false [] hll;have c4:=Dz l false [] hll;rw[CZ]at c3;have c5:=Fz (Xi (Yc l)) false false [] (by have:=Ou (Yc l);have:=TH l;omega);simp[f632C,h0,h1,c1,c2,c3,c4,c5]
def Lv {T:YX} {K:Zi} (h:KLe K (call T)) {n:Nat}: ∀{c:AC} {σ:St} {x:Ex×St},QR K n c σ=some x->run T c σ=some x:=by
 intro c
 induction c with
 | bad=>intro σ x he;simp[QR]at he
 | skip=>intro σ x he;rw[LA];exact he
 | ret=>intro σ x he;rw[KL];exact he
 | exit id=>intro σ x he;rw[Lx];exact he
 | reg d ops=>
  intro σ x he;rw[KK];simp only[QR]at he;cases hr:Zb K ops σ with
  | none=>rw[hr]at he;cases he
  | some s=>rw[Wt h hr];rw[hr]at he;exact he
 | seq a b iha ihb=>
  intro σ x he;rw[KM];simp only[QR]at he;cases ha:QR K n a σ with
  | none=>rw[ha]at he;cases he
  | some p=>
   obtain⟨e,s⟩:=p;rw[ha]at he;rw[iha ha];cases e
   ·exact ihb he
   ·exact he
   ·exact he
 | cond c a b iha ihb=>
  intro σ x he;rw[Lw];simp only[QR]at he;split at he
  ·rename_i hv;rw[hv];exact iha he
  ·rename_i hv;rw[hv];exact ihb he
  ·cases he
 | block id c ih=>
  intro σ x he;rw[Om];simp only[QR]at he;cases ha:QR K n c σ with
  | none=>rw[ha]at he;cases he
  | some p=>rw[ha]at he;rw[ih ha];exact he
 | loop c ih=>
  intro σ x he;simp only[QR]at he;have key: ∀(m:Nat) (σ:St) (x:Ex×St),Wp (QR K n c) m σ=some x->run T (.loop c) σ=some x:=by
   intro m
   induction m with
   | zero=>intro σ x he;simp[Wp]at he
   | succ m IH=>
    intro σ x he;rw[Lz];simp only[Wp]at he;cases ha:QR K n c σ with
    | none=>rw[ha]at he;cases he
    | some p=>
     obtain⟨e,s⟩:=p;rw[ha]at he;rw[ih ha];cases e
     ·exact IH _ _ he
     ·exact he
     ·exact he
  exact key n σ x he
abbrev QB:=Nat×List AV×List (List AV)×AV×List (List AV)
abbrev Qo:=List QB
def Pm:Qo->Nat->Qd->Qe->Option (AV×Qe)
 | [],_,_,_=>none
 | (g,ar,b,v,b2):: fs,f,args,bs=>if(g == f && Ut b bs && XQ ar args)=true then some (v,b2)else Pm fs f args bs
def S5 (T:YX) (fs:Qo):Nat->Zi
 | 0,_,_,_=>none
 | n+1,f,args,bs=>match Pm fs f args bs with
  | some r=>some r
  | none=>match T f with
   | none=>none
   | some (.orc g)=>g args bs
   | some (.code fn)=>
    if args.length=fn.nparams then
     match QR (S5 T fs n) n fn.body {env:=ZY args,bs}with
     | some (.normal,σ)=>ZS fn bs σ
     | some (.ret,σ)=>ZS fn bs σ
     | _=>none
    else none
def V7 (T:YX):Qo->Prop
 | []=>True
 | (g,ar,b,v,b2):: fs=>call T g ar b=some (v,b2)/\V7 T fs
def Lm {T:YX}: ∀{fs:Qo},V7 T fs->∀{f args bs r},Pm fs f args bs=some r->call T f args bs=some r
 | [],_,_,_,_,_,h=>by simp[Pm]at h
 | (g,ar,b,v,b2):: fs,hf,f,args,bs,r,h=>by
  simp only[Pm]at h;split at h
  ·rename_i c;simp only[Qh,WT]at c;obtain⟨⟨rfl,e2⟩,e⟩:=c;have e:=Y5 _ _ e;have e2:=Td _ _ e2;subst e;subst e2;cases h;exact hf.1
  ·exact Lm hf.2 h
def Rw {T:YX} {fs:Qo} (hf:V7 T fs): ∀n,KLe (S5 T fs n) (call T)
 | 0,_,_,_,_,h=>by simp[S5]at h
 | n+1,f,args,bs,r,h=>by
  simp only[S5]at h;split at h
  ·rename_i r' hl;cases h;exact Lm hf hl
  ·rw[PE];have ih:=Rw hf n;split at h
   ·cases h
   ·rename_i g hg;rw[hg];exact h
   ·rename_i fn hg;rw[hg];simp only;split at h
    ·rename_i hl;rw[Qj hl];split at h
     ·rename_i σ hr;rw[Lv ih hr];exact h
     ·rename_i σ hr;rw[Lv ih hr];exact h
     ·cases h
    ·cases h
def QD (T:YX) (L:Qo) (x:QB):Option (AV×Qe):=S5 T L 400 x.1 x.2.1 x.2.2.1
def QE {T:YX} {L:Qo} {x:QB} (o:V7 T L) (c:QD T L x=some x.2.2.2):V7 T (x:: L):=⟨Rw o _ _ _ _ _ c,o⟩
def E8:QG:=[101,110,99,40,109,58,97,110,121,44,32,107,58,107,101,121,41]
def RL:Qd:=[.int .i64 2,.str [109],.int .i64 0,.sl false 4 []]
def OI:Qd:=[.int .i64 2,.str [107],.int .i64 3,.sl false 4 []]
def KU:Qd:=[.int .i64 3,.str [101,110,99],.int .i64 0,.sl false 4 [RL,OI]]
def E9:QG:=[112,97,105,114,40,110,58,110,111,110,99,101,44,32,107,58,107,101,121,41]
def Da:Qe:=[[.int .i64 2,.str [110],.int .i64 2,.sl false 4 []],OI]
def KV:Qd:=[.int .i64 3,.str [112,97,105,114],.int .i64 0,.sl false 4 Da]
def Db:Qd:=[.int .i64 1,.int .i64 0,.sl false 1 [],.sl false 1 [],.int .i64 3,.str [101,110,99],.int .i64 0,.sl false 4 [RL,OI]]
def Dc:Qd:=[.int .i64 1,.int .i64 1,.sl false 1 [],.sl false 1 [],.int .i64 3,.str [112,97,105,114],.int .i64 0,.sl false 4 Da]
def OJ:Qe:=[[.int .i64 1]]
def HF:Qd:=[.int .i64 5,.int .i64 0,.sl false 1 OJ,.sl false 1 [],.int .i64 2,.str [107],.int .i64 3,.sl false 4 []]
def HG:QG:=[109,58,97,110,121]
def HH:Qd:=[.int .i64 7,.int .i64 0,.sl false 1 [[.int .i64 0],[.int .i64 2]],.sl false 1 [],.int .i64 2,.str [109],.int .i64 0,.sl false 4 []]
def UZ:Qe:=[Db,Dc,HF,HH]
def YW:Qd:=[.int .i64 2,.str [97],.int .i64 0,.sl false 4 []]
def U0:Qd:=[.int .i64 2,.str [98],.int .i64 0,.sl false 4 []]
def RM:Qd:=[.int .i64 3,.str [120,111,114],.int .i64 0,.sl false 4 [YW,U0]]
def RN:Qe:=[RM,U0]
def OZ:Qe:=[YW,U0,RM]
def RO:Qe:=[U0,RM]
def O0:Qe:=[[.int .i64 0],[.int .i64 1]]
def HI:Qd:=[.sl false 1 O0,.int .i64 0]
def HJ:Qd:=[.bool true,.int .i64 0]
def HK:Qd:=[.int .i64 1,.int .i64 0,.sl false 1 [],.sl false 1 [],.int .i64 3,.str [120,111,114],.int .i64 0,.sl false 4 [YW,U0]]
def HL:Qd:=[.int .i64 1,.int .i64 1,.sl false 1 [],.sl false 1 [],.int .i64 2,.str [98],.int .i64 0,.sl false 4 []]
def WL:Qe:=[[.sl true 8 [HK,HL]]]
def VC:Qd:=[.agg [.int .i64 0,.int .i64 0,.sl false 1 [],.sl false 1 [],.int .i64 0,.str [],.int .i64 0,.sl false 4 []],.bool false]
def HM:Qd:=[.int .i64 14,.int .i64 0,.sl false 1 O0,.sl false 1 [],.int .i64 2,.str [97],.int .i64 0,.sl false 4 []]
def HN:Qe:=[HK,HL,HM]
def T4:QG:=[101,120,112]
def WM:Qd:=[.int .i64 2,.str [103],.int .i64 4,.sl false 4 []]
def Yd:Qd:=[.int .i64 2,.str [120],.int .i64 2,.sl false 4 []]
def VD:Qd:=[.int .i64 3,.str T4,.int .i64 0,.sl false 4 [WM,Yd]]
def WN:Qd:=[.int .i64 2,.str [121],.int .i64 2,.sl false 4 []]
def O1:QG:=[109,117,108]
def O3:Qe:=[Yd,WN]
def YB:Qd:=[.int .i64 3,.str O1,.int .i64 0,.sl false 4 O3]
def O4:Qe:=[WM,YB]
def YL:Qd:=[.int .i64 3,.str T4,.int .i64 0,.sl false 4 O4]
def O5:Qe:=[VD,WN]
def HO:Qe:=[WM,Yd,WN,VD,YB,YL]
def WO:Qd:=[.sl false 1 [],.int .i64 4]
def Y8:Qe:=[WM,WN,VD]
def HP:Qd:=[.int .i64 2,.str [120],.int .i64 2,.sl false 4 [],.int .i64 1]
def U1:Qe:=[HP]
def HQ:Qd:=[.int .i64 2,.str [121],.int .i64 2,.sl false 4 [],.int .i64 1]
def RP:Qe:=[HP,HQ]
def HR:Qe:=[[.sl false 4 Y8],WM,[.sl false 5 RP]]
def XX:Qe:=[WM,WN,VD,YL]
def O6:Qd:=[.int .i64 1,.int .i64 0,.sl false 1 [],.sl false 1 [],.int .i64 3,.str T4,.int .i64 0,.sl false 4 [WM,Yd]]
def O7:Qd:=[.int .i64 1,.int .i64 1,.sl false 1 [],.sl false 1 [],.int .i64 2,.str [121],.int .i64 2,.sl false 4 []]
def HS:Qd:=[.int .i64 2,.int .i64 0,.sl false 1 [],.sl false 1 [],.int .i64 2,.str [103],.int .i64 4,.sl false 4 []]
def HT:Qd:=[.sl true 8 [O6,O7,HS]]
def QW:Qe:=[HT]
def O8:Qe:=[VD,WN,WM]
def RQ:Qe:=[HT,[.gp 0 0]]
def HU:Qd:=[.sl false 1 [],.sl false 1 [],.bool false]
def O9:Qd:=[.int .i64 15,.int .i64 0,.sl false 1 O0,.sl false 1 OJ,.int .i64 3,.str T4,.int .i64 0,.sl false 4 O4]
def T5:Qe:=[KU,KV]
def KT:Qo:=[]
def KW:QB:=(634,[.str E8],[],.agg KU,[])
def EY:Qo:=KW:: KT
def KX:QB:=(634,[.str E9],[],.agg KV,[])
def EZ:Qo:=KX:: EY
def KY:QB:=(649,[.str E8],[],.tup [.agg KU,.int .i64 0],[])
def E0:Qo:=KY:: EZ
def KZ:QB:=(646,[.str [103,105,118,101,110,32,48,58,32,101,110,99,40,109,58,97,110,121,44,32,107,58,107,101,121,41]],[],.tup [.agg Db,.bool true],[])
def E1:Qo:=KZ:: E0
def K0:QB:=(649,[.str E9],[],.tup [.agg KV,.int .i64 0],[])
def E3:Qo:=K0:: E1
def K1:QB:=(646,[.str [103,105,118,101,110,32,49,58,32,112,97,105,114,40,110,58,110,111,110,99,101,44,32,107,58,107,101,121,41]],[],.tup [.agg Dc,.bool true],[])
def E4:Qo:=K1:: E3
def K2:QB:=(649,[.str [107,58,107,101,121]],[],.tup [.agg OI,.int .i64 0],[])
def E5:Qo:=K2:: E4
def K3:QB:=(646,[.str [115,101,99,111,110,100,32,49,58,32,107,58,107,101,121]],[],.tup [.agg HF,.bool true],[])
def E6:Qo:=K3:: E5
def K4:QB:=(649,[.str HG],[],.tup [.agg RL,.int .i64 0],[])
def E7:Qo:=K4:: E6
def K5:QB:=(646,[.str [100,101,99,32,48,32,50,58,32,109,58,97,110,121]],[],.tup [.agg HH,.bool true],[])
def Ie:Qo:=K5:: E7
def Na:QB:=(635,[.str [103,105,118,101,110,32,48,58,32,101,110,99,40,109,58,97,110,121,44,32,107,58,107,101,121,41,10,103,105,118,101,110,32,49,58,32,112,97,105,114,40,110,58,110,111,110,99,101,44,32,107,58,107,101,121,41,10,115,101,99,111,110,100,32,49,58,32,107,58,107,101,121,10,100,101,99,32,48,32,50,58,32,109,58,97,110,121,10]],[],.tup [.sl false 8 UZ,.int .i64 0],[])
def Ig:Qo:=Na:: Ie
def Nb:QB:=(634,[.str [120,111,114,40,97,58,97,110,121,44,32,98,58,97,110,121,41]],[],.agg RM,[])
def Ih:Qo:=Nb:: Ig
def Nc:QB:=(634,[.str [98,58,97,110,121]],[],.agg U0,[])
def Ii:Qo:=Nc:: Ih
def Nd:QB:=(634,[.str [97,58,97,110,121]],[],.agg YW,[])
def Ij:Qo:=Nd:: Ii
def Nf:QB:=(518,[.sl false 4 RN,.sl false 4 [YW]],[],.tup [.sl false 4 OZ,.int .i64 0],[])
def Ik:Qo:=Nf:: Ij
def Ng:QB:=(541,[.sl false 4 RO,.agg YW],[],.tup HI,[])
def Il:Qo:=Ng:: Ik
def Nh:QB:=(539,[.sl false 4 RO,.agg YW],[],.bool true,[])
def Im:Qo:=Nh:: Il
def Ni:QB:=(531,[.sl false 4 RO,.agg YW],[],.bool true,[])
def Io:Qo:=Ni:: Im
def Nj:QB:=(529,[.sl false 4 RO,.sl false 4 OZ],[],.sl false 4 OZ,[])
def Ip:Qo:=Nj:: Io
def Nk:QB:=(517,[.sl false 4 RN,.agg YW],[],.tup HJ,[])
def Iq:Qo:=Nk:: Ip
def Nl:QB:=(736,[.gp 0 0,.agg YW],WL,.tup VC,WL)
def Ir:Qo:=Nl:: Iq
def Nm:QB:=(738,[.gp 0 0,.agg YW],WL,.tup VC,WL)
def Is:Qo:=Nm:: Ir
def Nn:QB:=(541,[.sl false 4 RN,.agg YW],WL,.tup HI,WL)
def It:Qo:=Nn:: Is
def Np:QB:=(739,[.gp 0 0,.agg YW],WL,.tup [.agg HM,.bool true],WL)
def Iu:Qo:=Np:: It
def Nq:QB:=(667,[.gp 0 0,.agg YW],WL,.bool true,[[.sl true 8 HN]])
def Iv:Qo:=Nq:: Iu
def Nr:QB:=(663,[.sl false 4 RN,.agg YW],[],.tup [.sl false 8 HN,.int .i64 0],[])
def Iw:Qo:=Nr:: Iv
def Ns:QB:=(634,[.str [101,120,112,40,103,58,100,97,116,97,44,32,120,58,110,111,110,99,101,41]],[],.agg VD,[])
def Ix:Qo:=Ns:: Iw
def Nt:QB:=(634,[.str [121,58,110,111,110,99,101]],[],.agg WN,[])
def Iy:Qo:=Nt:: Ix
def Nu:QB:=(634,[.str [101,120,112,40,103,58,100,97,116,97,44,32,109,117,108,40,120,58,110,111,110,99,101,44,32,121,58,110,111,110,99,101,41,41]],[],.agg YL,[])
def Iz:Qo:=Nu:: Iy
def Nv:QB:=(518,[.sl false 4 O5,.sl false 4 [YL]],[],.tup [.sl false 4 HO,.int .i64 0],[])
def IA:Qo:=Nv:: Iz
def Nw:QB:=(531,[.sl false 4 [WN,VD],.agg WM],[],.bool true,[])
def IB:Qo:=Nw:: IA
def Nx:QB:=(541,[.sl false 4 [],.agg Yd],[],.tup WO,[])
def IC:Qo:=Nx:: IB
def Ny:QB:=(539,[.sl false 4 Y8,.agg Yd],[],.bool false,[])
def ID:Qo:=Ny:: IC
def Nz:QB:=(552,[.sl false 4 Y8,.agg Yd],[],.bool false,[])
def IE:Qo:=Nz:: ID
def NA:QB:=(560,[.sl false 1 [],.sl false 5 U1],[],.tup WO,[])
def IF:Qo:=NA:: IE
def NB:QB:=(555,[.sl false 4 Y8,.sl false 5 U1],[],.bool false,[])
def IG:Qo:=NB:: IF
def NC:QB:=(568,[.sl false 4 Y8,.agg Yd],[],.bool false,[])
def II:Qo:=NC:: IG
def ND:QB:=(531,[.sl false 4 Y8,.agg Yd],[],.bool false,[])
def IJ:Qo:=ND:: II
def NE:QB:=(541,[.sl false 4 [],.agg YB],[],.tup WO,[])
def IK:Qo:=NE:: IJ
def NF:QB:=(539,[.sl false 4 Y8,.agg YB],[],.bool false,[])
def IL:Qo:=NF:: IK
def NG:QB:=(552,[.sl false 4 Y8,.agg YB],[],.bool false,[])
def IM:Qo:=NG:: IL
def NH:QB:=(555,[.sl false 4 Y8,.sl false 5 RP],[],.bool false,[])
def IP:Qo:=NH:: IM
def NI:QB:=(568,[.sl false 4 Y8,.agg YB],[],.bool false,[])
def IQ:Qo:=NI:: IP
def NJ:QB:=(531,[.sl false 4 Y8,.agg YB],[],.bool false,[])
def IR:Qo:=NJ:: IQ
def NK:QB:=(541,[.sl false 4 [],.agg YL],[],.tup WO,[])
def IU:Qo:=NK:: IR
def NL:QB:=(539,[.sl false 4 Y8,.agg YL],[],.bool false,[])
def IW:Qo:=NL:: IU
def NM:QB:=(560,[.sl false 1 [],.sl false 5 U1],HR,.tup WO,HR)
def IX:Qo:=NM:: IW
def NN:QB:=(552,[.sl false 4 Y8,.agg YL],[],.bool true,[])
def IY:Qo:=NN:: IX
def NO:QB:=(531,[.sl false 4 Y8,.agg YL],[],.bool true,[])
def IZ:Qo:=NO:: IY
def NP:QB:=(539,[.sl false 4 XX,.agg Yd],[],.bool false,[])
def I0:Qo:=NP:: IZ
def NQ:QB:=(552,[.sl false 4 XX,.agg Yd],[],.bool false,[])
def I1:Qo:=NQ:: I0
def NR:QB:=(555,[.sl false 4 XX,.sl false 5 U1],[],.bool false,[])
def I2:Qo:=NR:: I1
def NS:QB:=(568,[.sl false 4 XX,.agg Yd],[],.bool false,[])
def I3:Qo:=NS:: I2
def NT:QB:=(531,[.sl false 4 XX,.agg Yd],[],.bool false,[])
def I4:Qo:=NT:: I3
def NU:QB:=(539,[.sl false 4 XX,.agg YB],[],.bool false,[])
def I5:Qo:=NU:: I4
def NV:QB:=(552,[.sl false 4 XX,.agg YB],[],.bool false,[])
def I6:Qo:=NV:: I5
def NW:QB:=(555,[.sl false 4 XX,.sl false 5 RP],[],.bool false,[])
def I7:Qo:=NW:: I6
def NX:QB:=(568,[.sl false 4 XX,.agg YB],[],.bool false,[])
def I8:Qo:=NX:: I7
def NY:QB:=(531,[.sl false 4 XX,.agg YB],[],.bool false,[])
def I9:Qo:=NY:: I8
def N0:QB:=(529,[.sl false 4 [WN,VD],.sl false 4 HO],[],.sl false 4 XX,[])
def Ha:Qo:=N0:: I9
def N1:QB:=(517,[.sl false 4 O5,.agg YL],[],.tup HJ,[])
def Hb:Qo:=N1:: Ha
def N2:QB:=(736,[.gp 0 0,.agg Yd],QW,.tup VC,QW)
def Hc:Qo:=N2:: Hb
def N3:QB:=(738,[.gp 0 0,.agg Yd],QW,.tup VC,QW)
def Hd:Qo:=N3:: Hc
def N4:QB:=(541,[.sl false 4 O8,.agg Yd],QW,.tup WO,QW)
def He:Qo:=N4:: Hd
def N5:QB:=(739,[.gp 0 0,.agg Yd],QW,.tup [.agg [.int .i64 14,.int .i64 0,.sl false 1 [],.sl false 1 [],.int .i64 2,.str [120],.int .i64 2,.sl false 4 []],.bool false],QW)
def Hf:Qo:=N5:: He
def N6:QB:=(560,[.sl false 1 [],.sl false 5 U1],RQ,.tup WO,RQ)
def Hg:Qo:=N6:: Hf
def N7:QB:=(742,[.gp 0 0,.sl false 5 U1],QW,.tup HU,QW)
def Hh:Qo:=N7:: Hg
def N8:QB:=(741,[.gp 0 0,.agg Yd],QW,.tup [.agg [.int .i64 16,.int .i64 0,.sl false 1 [],.sl false 1 [],.int .i64 2,.str [120],.int .i64 2,.sl false 4 []],.bool false],QW)
def Hi:Qo:=N8:: Hh
def N9:QB:=(667,[.gp 0 0,.agg Yd],QW,.bool false,QW)
def Hj:Qo:=N9:: Hi
def Ma:QB:=(736,[.gp 0 0,.agg YB],QW,.tup VC,QW)
def Hk:Qo:=Ma:: Hj
def Mb:QB:=(738,[.gp 0 0,.agg YB],QW,.tup VC,QW)
def Hl:Qo:=Mb:: Hk
def Mc:QB:=(541,[.sl false 4 O8,.agg YB],QW,.tup WO,QW)
def Hm:Qo:=Mc:: Hl
def Md:QB:=(739,[.gp 0 0,.agg YB],QW,.tup [.agg [.int .i64 14,.int .i64 0,.sl false 1 [],.sl false 1 [],.int .i64 3,.str O1,.int .i64 0,.sl false 4 O3],.bool false],QW)
def Hn:Qo:=Md:: Hm
def Me:QB:=(742,[.gp 0 0,.sl false 5 RP],QW,.tup HU,QW)
def Ho:Qo:=Me:: Hn
def Mf:QB:=(741,[.gp 0 0,.agg YB],QW,.tup [.agg [.int .i64 16,.int .i64 0,.sl false 1 [],.sl false 1 [],.int .i64 3,.str O1,.int .i64 0,.sl false 4 O3],.bool false],QW)
def Hp:Qo:=Mf:: Ho
def Mg:QB:=(667,[.gp 0 0,.agg YB],QW,.bool false,QW)
def Hq:Qo:=Mg:: Hp
def Mh:QB:=(736,[.gp 0 0,.agg YL],QW,.tup VC,QW)
def Hr:Qo:=Mh:: Hq
def Mi:QB:=(738,[.gp 0 0,.agg YL],QW,.tup VC,QW)
def Hs:Qo:=Mi:: Hr
def Mj:QB:=(541,[.sl false 4 O8,.agg YL],QW,.tup WO,QW)
def Ht:Qo:=Mj:: Hs
def Mk:QB:=(739,[.gp 0 0,.agg YL],QW,.tup [.agg [.int .i64 14,.int .i64 0,.sl false 1 [],.sl false 1 [],.int .i64 3,.str T4,.int .i64 0,.sl false 4 O4],.bool false],QW)
def Hu:Qo:=Mk:: Ht
def Ml:QB:=(560,[.sl false 1 [],.sl false 5 []],RQ,.tup [.sl false 1 [],.int .i64 0],RQ)
def Hv:Qo:=Ml:: Hu
def Mm:QB:=(742,[.gp 0 0,.sl false 5 [HQ]],QW,.tup [.sl false 1 OJ,.sl false 1 OJ,.bool true],QW)
def Hw:Qo:=Mm:: Hv
def Mn:QB:=(741,[.gp 0 0,.agg YL],QW,.tup [.agg O9,.bool true],QW)
def Hx:Qo:=Mn:: Hw
def Mo:QB:=(667,[.gp 0 0,.agg YL],QW,.bool true,[[.sl true 8 [O6,O7,HS,O9]]])
def Hy:Qo:=Mo:: Hx
def Mp:QB:=(663,[.sl false 4 O5,.agg YL],[],.tup [.sl false 8 [O6,O7,O9],.int .i64 0],[])
def Hz:Qo:=Mp:: Hy
def Mq:QB:=(634,[.str HG],[],.agg RL,[])
def HA:Qo:=Mq:: Hz
def Mr:QB:=(351,[.sl false 4 T5,.sl false 8 UZ,.int .i64 0],[],.bool true,[])
def HB:Qo:=Mr:: HA
def Ms:QB:=(351,[.sl false 4 T5,.sl false 8 UZ,.int .i64 1],[],.bool true,[])
def HC:Qo:=Ms:: HB
def Mt:QB:=(351,[.sl false 4 T5,.sl false 8 UZ,.int .i64 2],[],.bool true,[])
def HD:Qo:=Mt:: HC
def Mu:QB:=(351,[.sl false 4 T5,.sl false 8 UZ,.int .i64 3],[],.bool true,[])
def HE:Qo:=Mu:: HD
def Mv:QB:=(348,[.sl false 4 T5,.sl false 8 UZ,.agg RL],[],.bool true,[])
def AF:Qo:=Mv:: HE
end Go.Am
