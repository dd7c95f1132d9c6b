/-
  Pf11, Pf12, Pf13, Pf8, Pf14, Pf15, AmMemo, PfMD.
-/
import Derived.Test.YtjkjecpalfmohaaGreatDoorG25
import Derived.Test.YtjkjecpalfmohaaGreatDoorG15
import Derived.KernelRfl
set_option linter.all false
open Go.Am.F
namespace Go.Am
set_option maxRecDepth 20000
def Va (n:Nat):ZT:=(List.replicate n false).set (n - 1) true
def Rx (n:Nat): (Va n).length=n:=by simp[Va]
def XL (l:QL):QL:=if Yh 0 l then fwP (Y4 l l.length (Va l.length)) 0 [] [] l else l
def Qru (l:QL) (bs:Qa) (hf:Yh 0 l=true) (hl:l.length<=410) (hac: ∀d∈l,d.a.length<=1000/\d.c.length<=1000) (ρ:Ql) (M:Qa)
  (h0:ρ 0= .sl false 8 (QD l)) (h3:ρ 3= .gs bs.length 0 1 l.length):
  R tb f668r3 ρ (bs ++ Zy (List.replicate l.length false):: M) (QN f668 bs)=some (.sl false 8 (QD (fwP (Y4 l l.length (Va l.length)) 0 [] [] l)),bs):=by
 by_cases hne:l=[]
 ·subst hne;simp[f668r3,h0,QD,fwP,ZV]
 ·have hpos:0 < l.length:=Tk.2 hne;have hw:IntKind.i64.wrap ((l.length:Int) - 1)=((l.length - 1:Nat):Int):=by rw[Zf (by omega) (by omega)];omega
  have hnn: (0:Int)<=((l.length - 1:Nat):Int):=by omega
  have hlt: ((l.length - 1:Nat):Int) < (l.length:Int):=by omega
  have hcast: ((l.length - 1:Nat):Int).toNat=l.length - 1:=by omega
  have hb: ∀x:Qh,(bs ++ x:: M)[bs.length]? =some x:=fun x=>by simp
  have hset: ∀x y:Qh,(bs ++ x:: M).set bs.length y=bs ++ y:: M:=fun x y=>by simp
  have hle:l.length - 1+1<=(Zy (List.replicate l.length false)).length:=by simp;omega
  have hput:=Mp (u:=List.replicate l.length false) (k:=l.length - 1) (by simp;omega) true;rw[show(List.replicate l.length false).set (l.length - 1) true=Va l.length from rfl]at hput;have hul: (Y4 l l.length (Va l.length)).length=l.length:=by rw[L8,Rx]
  have hcap:l.length*8<=140737488355328:=by omega
  have hnl: ((l.length:Int))<=4611686018427387904:=by omega
  have hrep: (List.replicate l.length [AV.int .i64 0]).flatten=QJ ([]++ List.replicate l.length 0):=by simp[QJ,MW]
  have h2:=fun c K X ρ=>Qrs l bs.length hf hl (fun d hd=>(hac d hd).1) c K X l.length (Va l.length) (bs ++ Zy (Va l.length):: M) ρ (Zm _) (Rx _) (hb _);have hs2:=hset (Zy (Va l.length)) (Zy (Y4 l l.length (Va l.length)));have hmp: ((l.length - 1:Nat):Int)=(l.length:Int) - 1:=by omega
  generalize hn1:l.length - 1=n1 at *;generalize hUS:Y4 l l.length (Va l.length)=US at *;generalize Zy (List.replicate l.length false)=C at *;simp[-getElem?_pos,Ze,Zv,f668r3,h0,h3,hne,hw,hnn,hlt,hcast,hb,hset,hle,hput];apply h2
  all_goals first | (simp[h0,h3,hmp];done) | skip
  intro ρ' b0 b3;rw[hs2];have h3':=fun ρ=>Qrt l US bs.length (bs ++ Zy US:: M).length bs hl hac hul (by simp) (by simp) l [] [] [] (bs ++ Zy US:: M ++ [QJ ([]++ List.replicate l.length 0)]) ρ rfl rfl (Zm _) ⟨Zy US:: M ++ [QJ ([]++ List.replicate l.length 0)],by simp⟩ (by rw[ZH (by simp)];exact hb _) (Ye);generalize hB:bs ++ Zy US:: M=B at *;generalize QJ ([]++ List.replicate l.length 0)=CI at *;simp[f668r2,b0,b3,hcap,hnl,hrep];apply h3' <;> simp[b3,QD]
def QjE (l:QL) (o:Bool) (bs:Qa) (hl:l.length<=410) (hac: ∀d∈l,d.a.length<=1000/\d.c.length<=1000):
  call tb 668 [.sl o 8 (QD l)] bs=some (.sl false 8 (QD (XL l)),bs):=by
 have hcap:l.length*1<=140737488355328:=by omega
 have hnl: ((l.length:Int))<=4611686018427387904:=by omega
 have hrep: (List.replicate l.length [AV.bool false]).flatten=Zy (List.replicate l.length false):=by simp[Zy,MW]
 have h0:=fun X hX ρ=>Qrq l bs hl (fun d hd=>(hac d hd).1) (Zy (List.replicate l.length false)) (.gs bs.length 0 1 l.length) X hX l [] [] ρ rfl;rw[zcc 668 rfl rfl];have e:XL l=if Yh 0 l then fwP (Y4 l l.length (Va l.length)) 0 [] [] l else l:=rfl
 generalize hU:Zy (List.replicate l.length false)=U at *;have hcap':l.length<=140737488355328:=by omega
 simp[f668C,hcap',hnl,hrep];rw[e];have e2:some (AV.sl false 8 (QD (XL l)),bs)=if Yh 0 l=true then some (AV.sl false 8 (QD (fwP (Y4 l l.length (Va l.length)) 0 [] [] l)),bs)else some (AV.sl false 8 (QD l),bs):=by rw[e];split <;> rfl
 rw[<- e,e2];apply h0 _ (fun hf ρ' M a b=>(hU▸Qru l bs hf hl hac ρ' M a b)) _ rfl <;> simp
def QqZ (l:QL) (d:Ded) (i:Nat) (bs:Qa) (hi:l[i]? =some d) (hda:d.a.length<=1000) (X:Out)
  (hX:d.a.any (Xj i)=false->∀ρ':Ql,ρ' 0= .sl false 8 (QD l)->ρ' 3= .int .i64 i->R tb f345r0 ρ' bs (QB tb (.loop f345l1) (Qo 0 (QB tb f345r1 (QN f345 bs))))=X):
  ∀(post pre:QO) (ρ:Ql),d.a=pre ++ post->d.a.any (Xj i)=post.any (Xj i)->ρ 0= .sl false 8 (QD l)->ρ 3= .int .i64 i->ρ 4= .int .i64 pre.length->
  R tb (.loop f345l0) ρ bs (Qo 2 (Qo 1 (QB tb f345r0 (QB tb (.loop f345l1) (Qo 0 (QB tb f345r1 (QN f345 bs)))))))=if d.a.any (Xj i)then some (.bool false,bs)else X:=by
 have hg: (QD l)[i]? =some (Za d):=by rw[Zr,hi];rfl
 have e2:=Pt d;intro post
 induction post with
 | nil=>
  intro pre ρ hk ha h0 h3 h4;simp only[QH]at hk;rw[<- hk]at h4;have hf:d.a.any (Xj i)=false:=ha;rw[Qe f345l0.eq_1];simp[-getElem?_pos,Ze,Zv,-Zr,h0,h3,h4,hg,e2,hf,-List.any_eq_true,-List.any_eq_false];apply hX hf <;> simp[h0,h3]
 | cons a post IH=>
  intro pre ρ hk ha h0 h3 h4;have hga: (ZF d.a)[pre.length]? =some [.int .i64 a]:=by rw[Xo,Qw hk];rfl
  have hll:=QE hk;have hw1:=wr1 pre.length (by omega);have hlt:=QI hk;have ih:=IH (pre ++ [a]);rw[Qe f345l0.eq_1];by_cases c0:a < 0
  ·have hf:d.a.any (Xj i)=true:=by rw[ha];simp[Xj,c0]
   simp[-getElem?_pos,Ze,Zv,-Zr,-Xo,h0,h3,h4,hg,e2,hga,hlt,c0,hf,-List.any_eq_true]
  ·by_cases c1: (i:Int)<=a
   ·have hf:d.a.any (Xj i)=true:=by rw[ha];simp[Xj,c1]
    simp[-getElem?_pos,Ze,Zv,-Zr,-Xo,h0,h3,h4,hg,e2,hga,hlt,c0,c1,hf,-List.any_eq_true]
   ·have ho:Xj i a=false:=by simp[Xj];omega
    simp[-getElem?_pos,Ze,Zv,-Zr,-Xo,h0,h3,h4,hg,e2,hga,hlt,c0,c1,hw1,-List.any_eq_true];apply ih _ (by rw[hk];simp) (by rw[ha];simp[ho]) <;> simp[h0,h3]
def Qq0 (l:QL) (bs:Qa) (hl:l.length<=410) (hal: ∀d∈l,d.a.length<=1000):
  ∀(post pre:QL) (ρ:Ql),l=pre ++ post->Yh 0 l=Yh pre.length post->ρ 0= .sl false 8 (QD l)->ρ 3= .int .i64 pre.length->
  R tb (.loop f345l1) ρ bs (Qo 0 (QB tb f345r1 (QN f345 bs)))=some (.bool (Yh 0 l && decide (0 < l.length)),bs):=by
 intro post
 induction post with
 | nil=>
  intro pre ρ hk hfm h0 h3;simp only[QH]at hk;rw[<- hk]at h3;have hf:Yh 0 l=true:=hfm;have e:decide ((0:Int) < (l.length:Int))=decide (0 < l.length):=E0.2 (by omega);rw[Qe f345l1.eq_1];simp[h0,h3,hf,f345r1]
 | cons d post IH=>
  intro pre ρ hk hfm h0 h3;have hll:=QE hk;have hw1:=wr1 pre.length (by omega);have hlt:=QI hk;have hda:=hal d (by rw[hk];simp);have h0':=fun X hX ρ=>QqZ l d pre.length bs (Qw hk) hda X hX d.a [] ρ rfl;simp only[Yh]at hfm;rw[Qe f345l1.eq_1];simp[h0,h3,hlt];have e: (if d.a.any (Xj pre.length)then some (AV.bool false,bs)else some (AV.bool (Yh 0 l && decide (0 < l.length)),bs))=some (AV.bool (Yh 0 l && decide (0 < l.length)),bs):=by
   rcases Vn (d.a.any (Xj pre.length))with hany | hany
   ·rw[hany]at hfm;have hf:Yh 0 l=false:=hfm;rw[hany,hf];rfl
   ·rw[hany];rfl
  rw[<- e];apply h0' _ ?_ _ rfl
  ·simp[h0]
  ·simp[h3]
  ·simp
  ·intro hany ρ' b0 b3;rw[hany]at hfm;simp[f345r0,b3,hw1];refine(IH (pre ++ [d]) _ (by rw[hk];simp) (by rw[hfm];simp) ?_ ?_).trans ?_ <;> simp[b0]
def Qi4 (l:QL) (o:Bool) (bs:Qa) (hl:l.length<=410) (hal: ∀d∈l,d.a.length<=1000):call tb 345 [.sl o 8 (QD l)] bs=some (.bool (Yh 0 l && decide (0 < l.length)),bs):=by
 have h:=fun ρ=>Qq0 l bs hl hal l [] ρ rfl rfl;rw[zcc 345 rfl rfl];simp[f345C];refine(h _ ?_ ?_).trans ?_ <;> simp
def getD_set_ne {u:ZT} {i j:Nat} {b:Bool} (h:j≠i): (u.set j b).getD i false=u.getD i false:=by
 simp[Vm,Wq h]
def Qrv (l:QL) (d:Ded) (i g:Nat) (hd:l[i]? =some d) (hfd: ∀a∈d.a,0<=a/\a < (i:Int)) (hil:i < l.length) (hl:l.length<=410) (hda:d.a.length<=1000) (c:AC) (K:Kn) (X:Out):
  ∀(post pre:QO) (u:ZT) (B:Qa) (ρ:Ql),d.a=pre ++ post->u.length=l.length->u.getD i false=true->B[g]? =some (Zy u)->
   ρ 0= .sl false 8 (QD l)->ρ 3= .gs g 0 1 l.length->ρ 4= .int .i64 i->ρ 5= .int .i64 pre.length->
   (∀ρ':Ql,ρ' 0= .sl false 8 (QD l)->ρ' 3= .gs g 0 1 l.length->ρ' 4= .int .i64 i->R tb c ρ' (B.set g (Zy (WE u post))) K=X)->
  R tb (.loop f344l0) ρ B (Qo 2 (Qo 1 (QB tb c K)))=X:=by
 have hg: (QD l)[i]? =some (Za d):=by rw[Zr,hd];rfl
 have e2:=Pt d;intro post
 induction post with
 | nil=>
  intro pre u B ρ hk hu hui hB h0 h3 h4 h5 h;simp only[QH]at hk;rw[<- hk]at h5;have hs:B.set g (Zy u)=B:=Rw hB;rw[Qe f344l0.eq_1];simp only[WE,List.foldl_nil,hs]at h;simp[-getElem?_pos,Ze,Zv,-Zr,h0,h3,h4,h5,hg,e2];apply h <;> simp[h0,h3,h4]
 | cons a post IH=>
  intro pre u B ρ hk hu hui hB h0 h3 h4 h5 h;have hga: (ZF d.a)[pre.length]? =some [.int .i64 a]:=by rw[Xo,Qw hk];rfl
  have hll:=QE hk;have hw1:=wr1 pre.length (by omega);have hlt:=QI hk;have hli: (i:Int) < (l.length:Int):=by omega
  obtain⟨a0,a1⟩:=hfd a (by rw[hk];simp);have a2:a < (l.length:Int):=by omega
  have hbl:=YT hB;have hle:a.toNat+1<=(Zy u).length:=by simp;omega
  have hle2:i+1<=(Zy u).length:=by simp;omega
  have hgu:=Ol (u:=u) (k:=i) (by omega);rw[hui]at hgu;have hput:=Mp (u:=u) (k:=a.toNat) (by omega) true;have hB2: (B.set g (Zy (u.set a.toNat true)))[g]? =some (Zy (u.set a.toNat true)):=Vo hbl;have ih:=IH (pre ++ [a]) (u.set a.toNat true);rw[Qe f344l0.eq_1];generalize Zy u=C at *;simp[-getElem?_pos,Ze,Zv,-Zr,-Xo,h0,h3,h4,h5,hg,e2,hga,hlt,hli,a0,a1,a2,hB,hle,hle2,hgu,hput,hw1];apply ih _ _ (by rw[hk];simp) (by simpa using hu) (by rw[getD_set_ne (by omega)];exact hui) hB2
  all_goals first | (simp[h0,h3,h4];done) | skip
  intro ρ' b0 b3 b6;have:=h ρ' b0 b3 b6;rw[TX];simpa[WE]using this
def Qrw (l:QL) (g:Nat) (hf:Yh 0 l=true) (hl:l.length<=410) (hal: ∀d∈l,d.a.length<=1000) (c:AC) (K:Kn) (X:Out):
  ∀(k:Nat) (u:ZT) (B:Qa) (ρ:Ql),k<=l.length->u.length=l.length->B[g]? =some (Zy u)->
   ρ 0= .sl false 8 (QD l)->ρ 3= .gs g 0 1 l.length->ρ 4= .int .i64 ((k:Int) - 1)->
   (∀ρ':Ql,ρ' 0= .sl false 8 (QD l)->ρ' 3= .gs g 0 1 l.length->R tb c ρ' (B.set g (Zy (Y4 l k u))) K=X)->
  R tb (.loop f344l1) ρ B (Qo 0 (QB tb c K))=X:=by
 intro k
 induction k with
 | zero=>
  intro u B ρ hk hu hB h0 h3 h4 h;have hs:B.set g (Zy u)=B:=Rw hB;have h4':ρ 4= .int .i64 (-1):=by rw[h4];rfl
  rw[Qe f344l1.eq_1];simp only[Y4,hs]at h;simp[h0,h3,h4'];apply h <;> simp[h0,h3]
 | succ k IH=>
  intro u B ρ hk hu hB h0 h3 h4 h;have h4':ρ 4= .int .i64 (k:Int):=by rw[h4];simp
  obtain⟨d,hd⟩: ∃d,l[k]? =some d:=⟨_,Zq (by omega)⟩;have hdm:d∈l:=XN hd;have hg: (QD l)[k]? =some (Za d):=by rw[Zr,hd];rfl
  have hfd: ∀a∈d.a,0<=a/\a < (k:Int):=fun a ha=>by have:=UC hf hd a ha;omega
  have hw1:IntKind.i64.wrap ((k:Int) - 1)=(k:Int) - 1:=Zf (by omega) (by omega);have hlt: (k:Int) < (l.length:Int):=by omega
  have hbl:=YT hB;have hle:k+1<=(Zy u).length:=by simp;omega
  have hgu:=Ol (u:=u) (k:=k) (by omega);have e2:=Pt d;have hda:=hal d hdm;simp only[Y4,hd,QS,Un]at h;rw[Qe f344l1.eq_1];rcases Vn (u.getD k false)with hu1 | hu1
  ·rw[hu1,Qn rfl]at h;have hmk: (WE u d.a).length=l.length:=by rw[RZ,hu]
   have hB2: (B.set g (Zy (WE u d.a)))[g]? =some (Zy (WE u d.a)):=Vo hbl;have ih:=IH (WE u d.a) (B.set g (Zy (WE u d.a)));have hl0:=fun ρ=>Qrv l d k g hd hfd (by omega) hl hda f344r0 (QB tb (.loop f344l1) (Qo 0 (QB tb c K))) X d.a [] u B ρ rfl hu hu1 hB;simp[h0,h3,h4'];apply hl0
   all_goals first | (simp[h0,h3,h4'];done) | skip
   intro ρ' b0 b3 b4;simp[f344r0,b4,hw1];apply ih _ (by omega) hmk hB2
   all_goals first | (simp[b0,b3];done) | skip
   intro ρ2 q0 q3;rw[TX];exact h ρ2 q0 q3
  ·rw[hu1]at hgu;rw[hu1]at h;simp only[Yl,Zi]at h;have ih:=IH u B;simp[h0,h3,h4'];rw[Qe f344l0.eq_1];generalize Zy u=C at *;by_cases hz: (0:Int) < (d.a.length:Int)
   ·simp[-getElem?_pos,Ze,Zv,-Zr,h0,h3,h4',hg,hlt,hB,hle,hgu,e2,hz,f344r0,hw1];apply ih _ (by omega) hu hB
    all_goals first | (simp[h0,h3];done) | exact h
   ·have hz2:d.a.length=0:=by omega
    simp[-getElem?_pos,Ze,Zv,-Zr,h0,h3,h4',hg,hlt,hB,hle,hgu,e2,hz2,f344r0,hw1];apply ih _ (by omega) hu hB
    all_goals first | (simp[h0,h3];done) | exact h
def fwR (u:ZT):Nat->QO->QL->QL->QL
 | _,_,out,[]=>out
 | i,to,out,d:: r=>if u.getD i false then fwR u (i+1) (to ++ [(out.length:Int)]) (out ++ [UP d to]) r else fwR u (i+1) (to ++ [(out.length:Int)]) out r
def Qrx (l:QL) (u:ZT) (g it:Nat) (bs:Qa) (hl:l.length<=410) (hac: ∀d∈l,d.a.length<=1000/\d.c.length<=1000) (hul:u.length=l.length) (hne:g≠it) (hib:bs.length<=it):
  ∀(post pre:QL) (to:QO) (out:QL) (B:Qa) (ρ:Ql),l=pre ++ post->to.length=pre.length->out.length<=pre.length->Th bs B->B[g]? =some (Zy u)->B[it]? =some (QJ (to ++ List.replicate post.length 0))->
   ρ 0= .sl false 8 (QD l)->ρ 3= .gs g 0 1 l.length->ρ 6= .sl true 8 (QD out)->ρ 7= .gs it 0 1 l.length->ρ 8= .int .i64 pre.length->
  R tb (.loop f344l2) ρ B (Qo 4 (QB tb f344r1 (QN f344 bs)))=some (.sl false 8 (QD (fwR u pre.length to out post)),bs):=by
 intro post
 induction post with
 | nil=>
  intro pre to out B ρ hk ht ho hP hg hi h0 h3 h6 h7 h8;simp only[QH]at hk;rw[<- hk]at h8;obtain⟨M,rfl⟩:=hP;have hgp:=RY out;simp only[fwR];rw[Qe f344l2.eq_1];simp[h0,h3,h6,h7,h8,f344r1,hgp]
 | cons d post IH=>
  intro pre to out B ρ hk ht ho hP hg hi h0 h3 h6 h7 h8;have hgt: (QD l)[pre.length]? =some (Za d):=by rw[Zr,Qw hk];rfl
  have hll:=QE hk;have hw1:=wr1 pre.length (by omega);have hlt:=QI hk;have hle: (pre.length:Int)<=(l.length:Int):=by omega
  have hltn:pre.length < l.length:=by omega
  obtain⟨d1,d2⟩:=hac d (by rw[hk];simp);have hlu:pre.length+1<=(Zy u).length:=by simp;omega
  have hgu:=Ol (u:=u) (k:=pre.length) (by omega);have hcl:pre.length+1<=(QJ (to ++ List.replicate (post.length+1) 0)).length:=by simp[QJ];omega
  have hput:=OQ (l:=to ++ List.replicate (post.length+1) 0) (pre:=to) (post:=List.replicate post.length 0) (x:=0) (out.length:Int) (by rw[SG]);rw[ht]at hput;have hcap: (out.length+1)*120<=140737488355328:=by omega
  have el:=SR out;have hpl: (pre ++ [d]).length=pre.length+1:=by simp
  rw[ZQ]at hi;have hbl:=YT hi;obtain⟨B',hB'⟩: ∃B',B'=B.set it (QJ (to ++ (out.length:Int):: List.replicate post.length 0)):=⟨_,rfl⟩;have hg':B'[g]? =some (Zy u):=by rw[hB',Wq (fun e=>hne e.symm)];exact hg
  have hi':B'[it]? =some (QJ (to ++ (out.length:Int):: List.replicate post.length 0)):=by rw[hB'];exact Vo hbl
  have hP':Th bs B':=by rw[hB'];exact hP.set hib _
  have hi2:B'[it]? =some (QJ (to ++ [(out.length:Int)]++ List.replicate post.length 0)):=by rw[hi'];simp
  have hBs:=hB'.symm;simp only[fwR];rw[Qe f344l2.eq_1];rcases Vn (u.getD pre.length false)with hu1 | hu1
  ·rw[hu1]at hgu;have c346:=Qi5 d to it pre.length (QJ (to ++ (out.length:Int):: List.replicate post.length 0)) B' ht (fun j hj=>IE (by omega)) hi' d1;have hsn:=Kt out (UP d to);have ih:=IH (pre ++ [d]) (to ++ [(out.length:Int)]) (out ++ [UP d to]) B';generalize Zy u=CU at *;generalize QJ (to ++ List.replicate (post.length+1) 0)=CI at *;rw[hu1,Qn rfl];rw[hpl]at ih;generalize hDD:QD out=DD at *;generalize hNN:QD (out ++ [UP d to])=NN at *;simp[-getElem?_pos,Ze,Zv,-Zr,h0,h3,h6,h7,h8,hgt,hlt,hltn,hle,hg,hg',hgu,hlu,hi,hcl,hput,el,hBs,c346,hcap,hsn,hw1];apply ih _ (by rw[hk];simp) (by simp[ht]) (by simp;omega) hP' hg' hi2
   all_goals first | (simp[h0,h3,h7];done) | skip
  ·rw[hu1]at hgu;have ih:=IH (pre ++ [d]) (to ++ [(out.length:Int)]) out B';rw[hu1];simp only[Yl,Zi];rw[hpl]at ih;generalize Zy u=CU at *;generalize QJ (to ++ List.replicate (post.length+1) 0)=CI at *;simp[-getElem?_pos,Ze,Zv,-Zr,h0,h3,h6,h7,h8,hgt,hlt,hltn,hle,hg,hg',hgu,hlu,hi,hcl,hput,el,hBs,hw1];apply ih _ (by rw[hk];simp) (by simp[ht]) (by omega) hP' hg' hi2
   all_goals first | (simp[h0,h3,h6,h7];done) | skip
def L7 (l:QL):QL:=if Yh 0 l then fwR (Y4 l l.length (Va l.length)) 0 [] [] l else l
def Qi3 (l:QL) (o:Bool) (bs:Qa) (hl:l.length<=410) (hac: ∀d∈l,d.a.length<=1000/\d.c.length<=1000):
  call tb 344 [.sl o 8 (QD l)] bs=some (.sl false 8 (QD (L7 l)),bs):=by
 have c345:=Qi4 l false bs hl (fun d hd=>(hac d hd).1);have hgp:=RY l;rw[zcc 344 rfl rfl];rcases Vn (Yh 0 l)with hf | hf
 ·by_cases hne:l=[]
  ·subst hne;have c345':call tb 345 [.sl false 8 []] bs=some (.bool false,bs):=by simpa[QD]using c345
   simp[f344C,c345',L7,fwR,QD,ZV]
  ·have hpos:0 < l.length:=Tk.2 hne;have hw:IntKind.i64.wrap ((l.length:Int) - 1)=((l.length - 1:Nat):Int):=by rw[Zf (by omega) (by omega)];omega
   have hnn: (0:Int)<=((l.length - 1:Nat):Int):=by omega
   have hlt: ((l.length - 1:Nat):Int) < (l.length:Int):=by omega
   have hcast: ((l.length - 1:Nat):Int).toNat=l.length - 1:=by omega
   have hb: ∀x:Qh,(bs ++ [x])[bs.length]? =some x:=fun x=>by simp
   have hset: ∀x y:Qh,(bs ++ [x]).set bs.length y=bs ++ [y]:=fun x y=>by simp
   have hle:l.length - 1+1<=(Zy (List.replicate l.length false)).length:=by simp;omega
   have hput:=Mp (u:=List.replicate l.length false) (k:=l.length - 1) (by simp;omega) true;rw[show(List.replicate l.length false).set (l.length - 1) true=Va l.length from rfl]at hput;have hul: (Y4 l l.length (Va l.length)).length=l.length:=by rw[L8,Rx]
   have hcap0:l.length<=140737488355328:=by omega
   have hcap:l.length*8<=140737488355328:=by omega
   have hnl: ((l.length:Int))<=4611686018427387904:=by omega
   have hrepB: (List.replicate l.length [AV.bool false]).flatten=Zy (List.replicate l.length false):=by simp[Zy,MW]
   have hrep: (List.replicate l.length [AV.int .i64 0]).flatten=QJ ([]++ List.replicate l.length 0):=by simp[QJ,MW]
   have h2:=fun c K X ρ=>Qrw l bs.length hf hl (fun d hd=>(hac d hd).1) c K X l.length (Va l.length) (bs ++ [Zy (Va l.length)]) ρ (Zm _) (Rx _) (hb _);have hs2:=hset (Zy (Va l.length)) (Zy (Y4 l l.length (Va l.length)));have hmp: ((l.length - 1:Nat):Int)=(l.length:Int) - 1:=by omega
   have e:L7 l=fwR (Y4 l l.length (Va l.length)) 0 [] [] l:=by unfold L7;rw[hf,Qn rfl]
   rw[hf]at c345;have hdp:decide (0 < l.length)=true:=by simpa using hpos
   rw[hdp]at c345;rw[e];generalize hn1:l.length - 1=n1 at *;generalize hUS:Y4 l l.length (Va l.length)=US at *;generalize Zy (List.replicate l.length false)=C at *;simp[-getElem?_pos,Ze,Zv,f344C,c345,hcap0,hnl,hrepB,hne,hw,hnn,hlt,hcast,hb,hset,hle,hput];apply h2
   all_goals first | (simp[hmp];done) | skip
   intro ρ' b0 b3;rw[hs2];have h3':=fun ρ=>Qrx l US bs.length (bs ++ [Zy US]).length bs hl hac hul (by simp) (by simp) l [] [] [] (bs ++ [Zy US]++ [QJ ([]++ List.replicate l.length 0)]) ρ rfl rfl (Zm _) ⟨[Zy US]++ [QJ ([]++ List.replicate l.length 0)],by simp⟩ (by rw[ZH (by simp)];exact hb _) (Ye);generalize hB:bs ++ [Zy US]=B at *;generalize QJ ([]++ List.replicate l.length 0)=CI at *;simp[f344r2,b0,b3,hcap,hnl,hrep];apply h3' <;> simp[b0,b3,QD]
 ·rw[hf]at c345;have e:L7 l=l:=by unfold L7;rw[hf];rfl
  rw[e];simp[f344C,c345,hgp]
def NX:QL->Nat
 | []=>0
 | d:: l=>d.a.length+d.c.length+NX l
def QfP (l:QL):Prop:=∀d∈l,d.a.length<=17592186044416/\d.c.length<=17592186044416
def Av: ∀(l:QL) (n:Int),QfP l->0<=n->n+l.length*35184372088832 < 9223372036854775808->NY n l=n+NX l
 | [],n,_,_,_=>by simp[NY,NX]
 | d:: l,n,h,h0,hb=>by
  obtain⟨h1,h2⟩:=h d (by simp);have hb':n+ ((l.length:Int)+1)*35184372088832 < 9223372036854775808:=by simpa using hb
  have hb2:n+ (d.a.length:Int)+d.c.length+ (l.length:Int)*35184372088832 < 9223372036854775808:=by omega
  have hl0: (0:Int)<=(l.length:Int)*35184372088832:=by omega
  have w1:IntKind.i64.wrap (n+d.a.length)=n+d.a.length:=Zf (by omega) (by omega);have w2:IntKind.i64.wrap (n+d.a.length+d.c.length)=n+d.a.length+d.c.length:=Zf (by omega) (by omega);simp only[NY,w1,w2,NX];rw[Av l _ (fun x hx=>h x (by simp[hx])) (by omega) hb2];omega
def DC: ∀{l:QL} {d:Ded},d∈l->d.a.length+d.c.length<=NX l
 | [],d,h=>by simp at h
 | x:: l,d,h=>by
  rcases ZE.1 h with rfl | h
  ·simp only[NX];omega
  ·have:=DC h;simp only[NX];omega
structure FD (l:List Ded):Prop where
 len:l.length<=410
 ac: ∀d∈l,d.a.length<=1000/\d.c.length<=1000
 cnt:NX l<=1000
 mass: ∀d∈l,d.t.mass<=126000
 nodes:Qx (l.map Ded.t)<=3000
def QqU {l:QL} (hr:QfP l) (h:LH l=true):FD l:=by
 have hl:=Qku h;simp only[LH,Qp,Qy]at h;obtain⟨h1,h2⟩:=h;rw[Av l 0 hr (by omega) (by omega)]at h1;have hc:NX l<=1000:=by omega
 obtain⟨m1,m2,m3⟩:=K3 (by omega) h2;refine⟨hl,fun d hd=> ?_,hc,fun d hd=> ?_,by simpa using m3⟩
 ·have:=DC hd;omega
 ·have:d.t.mass<=Qv (l.map Ded.t):=Q3 (JE hd);simp at m2;omega
def Qib {k:Qc} {l:QL} (hk:few k 62 700=true) (hl:FD l):OV k l:=by
 obtain⟨k1,k2,k3⟩:=K3 (by omega) hk;refine⟨fun x hx=> ?_,by omega,fun d hd=> ?_,fun d hd=>(hl.ac d hd).1,fun d hd=>(hl.ac d hd).2,by have:=hl.len;omega⟩
 ·have:x.mass<=Qv k:=Q3 hx;simp at k2;omega
 ·have:=hl.mass d hd;omega
def Qpw {k:Qc} {l:QL} (hk:few k 62 700=true) (hl:FD l):Qam k l:=by
 obtain⟨k1,k2,k3⟩:=K3 (by omega) hk;have hD:=Qib hk hl;refine⟨hD,fun d hd=> ?_⟩;have hn:d.t.nodes<=Qx (l.map Ded.t):=Pk (JE hd);have h3:=hl.nodes;have hm:=hl.mass d hd;refine⟨by simp;omega,.inl ?_,?_,fun x hx=> ?_⟩
 ·rw[XC];simp[Qx]at k3 ⊢;omega
 ·rw[W7];simp[Qv]at k2 ⊢;omega
 ·rcases Xe.1 hx with h | h
  ·exact hD.km x h
  ·rw[Vp.1 h];omega
def QjJ (k:Qc) (l:QL) (o o1:Bool) (bs:Qa) (hl:l.length<=1172812402961):call tb 700 [.sl o 4 (Qb k),.sl o1 8 (QD l)] bs=some (.bool (few k 62 700 && LH l),bs):=by
 have h1:call tb 101 [.sl false 4 (Qb k),.int .i64 62,.int .i64 700] bs=some (.bool (few k 62 700),bs):=Ds k false 62 700 bs (by omega) (by omega) (by omega);have h2:=QjI l false bs hl;rw[zcc 700 rfl rfl];cases c:few k 62 700
 ·rw[c]at h1;simp[f700C,h1]
 ·rw[c]at h1;simp[f700C,h1,h2]
def O0 {u:ZT} {i:Nat} (h:i < u.length) (b:Bool): (u.set i b).getD i false=b:=by
 simp[Vm,h]
def LQ {j:Nat}: ∀(xs:QO) (u:ZT),u.getD j false=true->(WE u xs).getD j false=true
 | [],_,h=>h
 | a:: xs,u,h=>by
  refine LQ xs (u.set a.toNat true) ?_;by_cases e:a.toNat=j
  ·subst e;by_cases hl:a.toNat < u.length
   ·exact O0 hl true
   ·rw[List.set_eq_of_length_le (by omega)];exact h
  ·rw[getD_set_ne e];exact h
def A0: ∀(xs:QO) (u:ZT) {a:Int},a∈xs->a.toNat < u.length->(WE u xs).getD a.toNat false=true
 | [],_,a,h,_=>by simp at h
 | x:: xs,u,a,h,hl=>by
  rcases ZE.1 h with rfl | h
  ·exact LQ xs (u.set a.toNat true) (O0 hl true)
  ·exact A0 xs (u.set x.toNat true) h (by simpa using hl)
def Hl {j:Nat}: ∀(xs:QO) (u:ZT),(∀a∈xs,a.toNat≠j)->(WE u xs).getD j false=u.getD j false
 | [],_,_=>rfl
 | a:: xs,u,h=>by
  have:=Hl xs (u.set a.toNat true) fun x hx=>h x (by simp[hx]);rw[getD_set_ne (h a (by simp))]at this;exact this
def L9 (l:QL) {j:Nat}: ∀(k:Nat) (u:ZT),u.getD j false=true->(Y4 l k u).getD j false=true
 | 0,_,h=>h
 | k+1,u,h=>by
  simp only[Y4];refine L9 l k _ ?_;split
  ·exact LQ _ _ h
  ·exact h
def Qah (l:QL) (hf:Yh 0 l=true) {j:Nat}: ∀(k:Nat) (u:ZT),k<=l.length->k<=j+1->(Y4 l k u).getD j false=u.getD j false
 | 0,_,_,_=>rfl
 | k+1,u,hk,hj=>by
  obtain⟨d,hd⟩: ∃d,l[k]? =some d:=⟨_,Zq (by omega)⟩;simp only[Y4,hd,QS,Un];rw[Qah l hf k _ (by omega) (by omega)];split
  ·exact Hl _ _ fun a ha=>by have:=UC hf hd a ha;omega
  ·rfl
def O6 (l:QL) (hf:Yh 0 l=true): ∀(k:Nat) (u:ZT),k<=l.length->u.length=l.length->∀{i:Nat} {d:Ded},i < k->l[i]? =some d->(Y4 l k u).getD i false=true->∀a∈d.a,(Y4 l k u).getD a.toNat false=true
 | 0,_,_,_,i,d,hi,_,_=>by omega
 | k+1,u,hk,hu,i,d,hi,hd,hui=>by
  obtain⟨dk,hdk⟩: ∃d,l[k]? =some d:=⟨_,Zq (by omega)⟩;simp only[Y4,hdk,QS,Un]at hui ⊢;by_cases e:i=k
  ·subst e;rw[hd]at hdk;injection hdk with hdk
   subst hdk;rw[Qah l hf i _ (by omega) (by omega)]at hui;intro a ha;have hfa:=UC hf hd a ha;have hu1:u.getD i false=true:=by
    split at hui
    ·rw[Hl _ _ fun a ha=>by have:=UC hf hd a ha;omega]at hui;exact hui
    ·exact hui
   rw[hu1,Qn rfl];exact L9 l i _ (A0 _ _ ha (by omega))
  ·refine O6 l hf k _ (by omega) ?_ (by omega) hd hui;split
   ·rw[RZ];exact hu
   ·exact hu
def Qfy (l:QL) (hne:l≠[]): (Y4 l l.length (Va l.length)).getD (l.length - 1) false=true:=by
 have hpos:0 < l.length:=Tk.2 hne;exact L9 l _ _ (O0 (by simp;omega) true)
def Hm {to:QO} {a:Int} (h0:0<=a) (h1:a < (to.length:Int)):Y1 to a=to.getD a.toNat 0:=by unfold Y1;rw[Qn ⟨h0,h1⟩]
def Qq1 (l:QL) (U:ZT) (hf:Yh 0 l=true) (hc: ∀{i:Nat} {d:Ded},l[i]? =some d->U.getD i false=true->∀a∈d.a,U.getD a.toNat false=true):
  ∀(post pre:QL) (t1 t2:QO) (out:QL),l=pre ++ post->t1.length=pre.length->t2.length=pre.length->(∀j,j < pre.length->U.getD j false=true->t1.getD j 0=t2.getD j 0)->
   fwP U pre.length t1 out post=fwR U pre.length t2 out post:=by
 intro post
 induction post with
 | nil=>intros;rfl
 | cons d post IH=>
  intro pre t1 t2 out hk h1 h2 h;have hd:=Qw hk;have hll:=QE hk;have hpl: (pre ++ [d]).length=pre.length+1:=by simp
  have ih:=fun t1 t2 out=>IH (pre ++ [d]) t1 t2 out (by rw[hk];simp);rw[hpl]at ih;simp only[fwP,fwR];have ext: ∀(x y:Int),(U.getD pre.length false=true->x=y)->∀j,j < pre.length+1->U.getD j false=true->(t1 ++ [x]).getD j 0=(t2 ++ [y]).getD j 0:=by
   intro x y hxy j hj hu;rcases QT j pre.length with hlt | hge
   ·have:=h j hlt hu;simp only[Vm]at this ⊢;rw[ZH (by omega),ZH (by omega)];exact this
   ·have:j=pre.length:=by omega
    subst this;simp only[Vm];rw[YQ (by omega),YQ (by omega),h1,h2];simpa using hxy hu
  rcases Vn (U.getD pre.length false)with hu | hu
  ·have hm:UP d t1=UP d t2:=by
    unfold UP;congr 1;refine PR fun a ha=> ?_;have hfa:=UC hf hd a ha;rw[Hm hfa.1 (by omega),Hm hfa.1 (by omega)];exact h a.toNat (by omega) (hc hd hu a ha)
   rw[hu,Qn rfl,Qn rfl,hm];exact ih _ _ _ (by simp[h1]) (by simp[h2]) (ext _ _ fun _=>rfl)
  ·rw[hu];simp only[Yl,Zi];exact ih _ _ _ (by simp[h1]) (by simp[h2]) (ext _ _ fun e=>by rw[hu]at e;cases e)
def QpT (l:QL):L7 l=XL l:=by
 unfold L7 XL;rcases Vn (Yh 0 l)with hf | hf
 ·rw[hf,Qn rfl,Qn rfl];exact(Qq1 l _ hf (fun {i d} hd hu=>O6 l hf l.length _ (Zm _) (Rx _) (by
   rcases QT i l.length with h | h
   ·exact h
   ·rw[Q2 h]at hd;cases hd) hd hu) l [] [] [] [] rfl rfl rfl (fun j hj=>by simp at hj)).symm
 ·rw[hf];rfl
def KN (l out:QL) (p:Nat) (x:Ded):Prop:=∃(j:Nat) (d:Ded),l[j]? =some d/\x.r=d.r/\x.n=d.n/\x.c=d.c/\x.t=d.t/\x.a.length=d.a.length/\
 ∀(i:Nat) (a:Int),d.a[i]? =some a->∃b:Nat,x.a[i]? =some (b:Int)/\b < p/\∃y,out[b]? =some y/\l[a.toNat]?.map Ded.t=some y.t
def KN.app {l out:QL} {p:Nat} {x:Ded} (h:KN l out p x) (z:QL) (hp:p<=out.length):KN l (out ++ z) p x:=by
 obtain⟨j,d,h1,h2,h3,h4,h5,h6,h7⟩:=h;refine⟨j,d,h1,h2,h3,h4,h5,h6,fun i a ha=> ?_⟩;obtain⟨b,k1,k2,y,k3,k4⟩:=h7 i a ha;exact⟨b,k1,k2,y,by rw[ZH (by omega)];exact k3,k4⟩
def Py {α:Type} {l:List α} {i:Nat} {x:α} (h:l[i]? =some x):i < l.length:=by
 rcases QT i l.length with h1 | h1
 ·exact h1
 ·rw[Q2 h1]at h;cases h
def Qq2 (l:QL) (U:ZT) (hf:Yh 0 l=true) (hc: ∀{i:Nat} {d:Ded},l[i]? =some d->U.getD i false=true->∀a∈d.a,U.getD a.toNat false=true):
  ∀(post pre:QL) (to:QO) (out:QL),l=pre ++ post->to.length=pre.length->
   (∀j,j < pre.length->U.getD j false=true->∃p:Nat,to.getD j 0=(p:Int)/\∃y,out[p]? =some y/\l[j]?.map Ded.t=some y.t)->
   (∀p x,out[p]? =some x->KN l out p x)->out.length<=pre.length->
   (∀p x,(fwP U pre.length to out post)[p]? =some x->KN l (fwP U pre.length to out post) p x)/\(fwP U pre.length to out post).length<=l.length:=by
 intro post
 induction post with
 | nil=>
  intro pre to out hk ht hto hg hol;simp only[fwP];exact⟨hg,by rw[hk];simpa using hol⟩
 | cons d post IH=>
  intro pre to out hk ht hto hg hol;have hd:=Qw hk;have hll:=QE hk;have hpl: (pre ++ [d]).length=pre.length+1:=by simp
  have ih:=fun to out=>IH (pre ++ [d]) to out (by rw[hk];simp);rw[hpl]at ih;simp only[fwP];rcases Vn (U.getD pre.length false)with hu | hu
  ·rw[hu,Qn rfl];refine ih _ _ (by simp[ht]) ?_ ?_ (by simp;omega)
   ·intro j hj huj;rcases QT j pre.length with hlt | hge
    ·obtain⟨p,h1,y,h2,h3⟩:=hto j hlt huj;refine⟨p,?_,y,by rw[ZH (Py h2)];exact h2,h3⟩;simp only[Vm]at h1 ⊢;rw[ZH (by omega)];exact h1
    ·have:j=pre.length:=by omega
     subst this;refine⟨out.length,?_,UP d to,Ye,by rw[hd];rfl⟩;simp only[Vm];rw[YQ (by omega),ht];simp
   ·intro p x hx;rcases QT p out.length with hlt | hge
    ·rw[ZH hlt]at hx;exact(hg p x hx).app _ (by omega)
    ·have hp:p=out.length:=by have:=Py hx;simp at this;omega
     subst hp;rw[Ye]at hx;injection hx with hx
     subst hx;refine⟨pre.length,d,hd,rfl,rfl,rfl,rfl,by simp[UP],fun i a ha=> ?_⟩;have hma:=XN ha;have hfa:=UC hf hd a hma;obtain⟨b,h1,y,h2,h3⟩:=hto a.toNat (by omega) (hc hd hu a hma);refine⟨b,?_,Py h2,y,by rw[ZH (Py h2)];exact h2,h3⟩;simp only[UP,Wr,ha,QS];rw[Hm hfa.1 (by omega),h1]
  ·rw[hu];simp only[Yl,Zi];refine ih _ _ (by simp[ht]) ?_ hg (by omega);intro j hj huj;rcases QT j pre.length with hlt | hge
   ·obtain⟨p,h1,y,h2,h3⟩:=hto j hlt huj;refine⟨p,?_,y,h2,h3⟩;simp only[Vm]at h1 ⊢;rw[ZH (by omega)];exact h1
   ·have:j=pre.length:=by omega
    subst this;rw[hu]at huj;cases huj
def Qkv (U:ZT): ∀(post:QL) (i:Nat) (to:QO) (out:QL) (d:Ded),post.getLast?=some d->U.getD (i+post.length - 1) false=true->
  ∃x,(fwP U i to out post).getLast?=some x/\x.t=d.t:=by
 intro post
 induction post with
 | nil=>intro i to out d h;simp at h
 | cons e post IH=>
  intro i to out d h hu;cases post with
  | nil=>
   simp only[List.getLast?_singleton,QG]at h;subst h;have hu':U.getD i false=true:=by simpa using hu
   simp only[fwP,hu',Zj];exact⟨UP e to,by simp,rfl⟩
  | cons e2 post=>
   have h2: (e2:: post).getLast?=some d:=by simpa using h
   have hu2:U.getD (i+1+ (e2:: post).length - 1) false=true:=by
    rw[<- hu];congr 1;simp only[ZQ];omega
   simp only[fwP]at IH ⊢;split
   ·exact IH (i+1) _ _ d h2 hu2
   ·exact IH (i+1) _ _ d h2 hu2
def QkL (l:QO) (bs:Qa) (hl:l.length<=1000000):
  ∀(post pre:QO) (ρ:Ql),l=pre ++ post->ρ 0= .sl false 1 (ZF l)->ρ 1= .sl false 1 (ZF l)->ρ 5= .int .i64 pre.length->
  R tb (.loop f710l0) ρ bs (Qo 0 (QB tb f710r0 (QN f710 bs)))=some (.bool true,bs):=by
 intro post
 induction post with
 | nil=>
  intro pre ρ hk h0 h1 h5;simp only[QH]at hk;rw[<- hk]at h5;rw[Qe f710l0.eq_1];simp[h0,h1,h5,f710r0]
 | cons x post IH=>
  intro pre ρ hk h0 h1 h5;have hll:=QE hk;have hx: (ZF l)[pre.length]? =some [.int .i64 x]:=by rw[Xo,Qw hk];rfl
  have hw1:=wr1 pre.length (by omega);have hlt:=QI hk;rw[Qe f710l0.eq_1];simp[-Xo,h0,h1,h5,hx,hlt,hw1];rw[IH (pre ++ [x])] <;> simp[h0,h1,hk]
def Dg (l:QO) (bs:Qa) (hl:l.length<=1000000):call tb 710 [.sl false 1 (ZF l),.sl false 1 (ZF l)] bs=some (.bool true,bs):=by
 rw[zcc 710 rfl rfl];simp[f710C];rw[QkL l bs hl l []] <;> simp
def QhA (l:QL) (bs:Qa) (hl:l.length<=1000000) (hac: ∀d∈l,d.a.length<=1000000/\d.c.length<=1000000/\d.t.mass < 1000000):
  ∀(post pre:QL) (ρ:Ql),l=pre ++ post->ρ 0= .sl false 8 (QD l)->ρ 1= .sl false 8 (QD l)->ρ 5= .int .i64 pre.length->
  R tb (.loop f709l0) ρ bs (Qo 0 (QB tb f709r0 (QN f709 bs)))=some (.bool true,bs):=by
 intro post
 induction post with
 | nil=>
  intro pre ρ hk h0 h1 h5;simp only[QH]at hk;rw[<- hk]at h5;rw[Qe f709l0.eq_1];simp[h0,h1,h5,f709r0]
 | cons d post IH=>
  intro pre ρ hk h0 h1 h5;have hll:=QE hk;have hx: (QD l)[pre.length]? =some (Za d):=by rw[Zr,Qw hk];rfl
  have hw1:=wr1 pre.length (by omega);have hlt:=QI hk;obtain⟨a1,a2,a3⟩:=hac d (by rw[hk];simp);have c1:=Dg d.a bs a1;have c2:=Dg d.c bs a2;have c3:=Xs d.t d.t bs (by unfold big;omega) (by unfold big;omega);rw[V2]at c3;have e0:=QjT d;have e1:=QjU d;have e2:=Pt d;have e3:=QjV d;have e4:=RC d;have el:=HQ d;have htk: (Qf d.t).take 4=Qf d.t:=Qk d.t;generalize ZF d.a=EA at *;generalize ZF d.c=EC at *;generalize Za d=ED at *;rw[Qe f709l0.eq_1];simp[-getElem?_pos,Ze,Zv,-Zr,h0,h1,h5,hx,hlt,hw1,e0,e1,e2,e3,e4,el,htk,c1,c2,c3];rw[IH (pre ++ [d])] <;> simp[h0,h1,hk]
def Qga (l:QL) (o o1:Bool) (bs:Qa) (hl:l.length<=1000000) (hac: ∀d∈l,d.a.length<=1000000/\d.c.length<=1000000/\d.t.mass < 1000000):
  call tb 709 [.sl o 8 (QD l),.sl o1 8 (QD l)] bs=some (.bool true,bs):=by
 rw[zcc 709 rfl rfl];simp[f709C];rw[QhA l bs hl hac l []] <;> simp
def Jk (ks:Qc) (l:QL): ∀(post:QL) (i:Nat),W9 ks l i post=true↔∀(k:Nat) (x:Ded),post[k]? =some x->stB ks l (i+k) x=true
 | [],i=>by simp[W9]
 | d:: post,i=>by
  simp only[W9,Qp,Jk ks l post (i+1)];constructor
  ·rintro⟨h0,h1⟩ k x hx
   cases k with
   | zero=>simp at hx;subst hx;simpa using h0
   | succ k=>simp at hx;have:=h1 k x hx;rwa[show i+ (k+1)=i+1+k by omega]
  ·intro h;refine⟨by simpa using h 0 d rfl,fun k x hx=> ?_⟩;have:=h (k+1) x (by simpa using hx);rwa[show i+ (k+1)=i+1+k by omega]at this
def Qky {ks ks2:Qc} {l out:QL} {p:Nat} {x:Ded} (h:KN l out p x) (hl: ∀(j:Nat) (d:Ded),l[j]? =some d->stB ks l j d=true) (hrt: ∀A,rtB ks x A=true->rtB ks2 x A=true):stB ks2 out p x=true:=by
 obtain⟨j,d,h1,h2,h3,h4,h5,h6,h7⟩:=h;have hs:=hl j d h1;obtain⟨r,n,xa,c,t⟩:=x;obtain⟨dr,dn,a,dc,dt⟩:=d;simp only at h2 h3 h4 h5 h6 h7;subst h2 h3 h4 h5;simp only[stB,Qp,Qy]at hs ⊢;obtain⟨s1,s2,s3⟩:=hs;have hA:W0 out ⟨r,n,xa,c,t⟩=W0 l ⟨r,n,a,c,t⟩:=by
  unfold W0;apply Tl;intro i;simp only[Wr];cases ha:a[i]? with
  | none=>
   have:xa[i]? =none:=by
    rw[QdS]at ha ⊢;omega
   rw[this];rfl
  | some v=>
   obtain⟨b,k1,k2,y,k3,k4⟩:=h7 i v ha;rw[k1];simp only[QS,PO,k3,k4]
 obtain⟨f1,f2,f3,f4,f5⟩:=NC s2;have hany:xa.any (Xj p)=false:=by
  rw[TU];intro v hv;obtain⟨i,hi⟩:=UG hv;have hil:i < a.length:=by have:=Py hi;omega
  obtain⟨b,k1,k2,_⟩:=h7 i _ (Zq hil);rw[hi]at k1;injection k1 with k1
  subst k1;simp[Xj];omega
 have hc:c.any Yu=false:=by
  rw[TU];intro v hv;rw[f5 v hv];simp
 have f2':f6B ⟨r,n,xa,c,t⟩=false:=by
  rw[<- f2];unfold f6B SQ;simp only[h6]
 have f4':fNB ⟨r,n,xa,c,t⟩=false:=f4;refine⟨s1,?_,?_⟩
 ·unfold TE;simp only[f1,f2',f4',hany,hc,Yl,Zi,Bool.true_eq_false]
 ·rw[hA];exact hrt _ s3
def Pb {ks:Qc} {l:QL}: ∀{post:QL} {i:Nat},W9 ks l i post=true->Yh i post=true
 | [],_,_=>rfl
 | d:: post,i,h=>by
  simp only[W9,Qp]at h;simp only[Yh,Qp,UV];refine⟨?_,Pb h.2⟩;simp only[stB,Qp,Qy]at h;obtain⟨_,_,f3,_,_⟩:=NC h.1.2.1;rw[TU];intro a ha;have:=f3 a ha;simp[Xj];omega
def IQ {l:QL} (hf:Yh 0 l=true) (hne:l≠[]): (∀p x,(XL l)[p]? =some x->KN l (XL l) p x)/\(XL l).length<=l.length/\∀d,l.getLast?=some d->∃x,(XL l).getLast?=some x/\x.t=d.t:=by
 have hc: ∀{i:Nat} {d:Ded},l[i]? =some d->(Y4 l l.length (Va l.length)).getD i false=true->∀a∈d.a,(Y4 l l.length (Va l.length)).getD a.toNat false=true:=fun {i d} hd hu=>O6 l hf l.length _ (Zm _) (Rx _) (Py hd) hd hu;have h:=Qq2 l _ hf hc l [] [] [] rfl rfl (fun j hj=>by simp at hj) (fun p x hx=>by simp at hx) (Zm _);have e:XL l=fwP (Y4 l l.length (Va l.length)) 0 [] [] l:=by unfold XL;rw[hf,Qn rfl]
 rw[e];refine⟨h.1,h.2,fun d hd=>Qkv _ l 0 [] [] d hd ?_⟩;rw[Zl];exact Qfy l hne
def Qad {ks:Qc} {l:QL} {t:Tm} (h:Pa ks l t=true):Pa ks (XL l) t=true:=by
 unfold Pa at h;simp only[Qp,UV,Nl,TC,EY,Qy]at h;obtain⟨⟨⟨⟨⟨h1,h2⟩,h3⟩,h4⟩,h5⟩,h6,h7⟩:=h;have hne:l≠[]:=fun e=>h1 (by rw[e];rfl);have hf:Yh 0 l=true:=Pb h7;obtain⟨g1,g2,g3⟩:=IQ hf hne;obtain⟨d,e1,e2,e3⟩:=Og hne;obtain⟨x,k1,k2⟩:=g3 d e1;have hl:VK l t=decide (Qq d.t t=0):=by unfold VK;rw[e1]
 have hl2:VK (XL l) t=true:=by
  unfold VK;rw[k1];simp only;rw[k2,<- hl];exact h5
 have hn0: ¬(XL l).length=0:=fun e=>by
  rw[YX e]at k1;simp at k1
 have hst:=(Jk ks l l 0).1 h7;simp only[Zl]at hst;unfold Pa;simp only[Qp,UV,Nl,TC,EY,Qy];refine⟨⟨⟨⟨⟨hn0,by omega⟩,h3⟩,h4⟩,hl2⟩,h6,(Jk ks _ _ 0).2 fun k x hx=> ?_⟩;rw[Zl];exact Qky (g1 k x hx) hst fun _ h=>h
def Qlu {ks:Qc} {l:QL} (hl:K9 ks l=true):K9 ks (XL l)=true:=by
 unfold K9 at hl;cases e:l.getLast? with
 | none=>rw[e]at hl;cases hl
 | some d=>
  rw[e]at hl;simp only[Qp,Qy]at hl;obtain⟨h1,h2,h3⟩:=hl;have hne:l≠[]:=fun e2=>by rw[e2]at e;simp at e
  have hd:=h2;unfold Pa at hd;simp only[Qp]at hd;have hf:Yh 0 l=true:=Pb hd.2.2;obtain⟨g1,g2,g3⟩:=IQ hf hne;obtain⟨x,k1,k2⟩:=g3 d e;unfold K9;rw[k1];simp only[Qp,Qy,k2];refine⟨h1,Qad h2,?_⟩;rw[XO]at h3 ⊢;intro y hy;obtain⟨p,hp⟩:=UG hy;obtain⟨j,dd,q1,_,_,_,q5,_⟩:=g1 p y hp;rw[q5];exact h3 dd (XN q1)
def Qae {l:QL}: ∀x∈XL l,∃d∈l,x.t=d.t/\x.a.length=d.a.length/\x.c=d.c:=by
 intro x hx;by_cases hne:l=[]
 ·subst hne;simp[XL,Yh,fwP]at hx
 ·rcases Vn (Yh 0 l)with hf | hf
  ·obtain⟨g1,_,_⟩:=IQ hf hne;obtain⟨p,hp⟩:=UG hx;obtain⟨j,dd,q1,_,_,q4,q5,q6,_⟩:=g1 p x hp;exact⟨dd,XN q1,q5,q6,q4⟩
  ·have e:XL l=l:=by unfold XL;rw[hf];rfl
   rw[e]at hx;exact⟨x,hx,rfl,rfl,rfl⟩
def Qlt {l:QL}: (XL l).length<=l.length:=by
 by_cases hne:l=[]
 ·subst hne;simp[XL,Yh,fwP]
 ·rcases Vn (Yh 0 l)with hf | hf
  ·exact(IQ hf hne).2.1
  ·have e:XL l=l:=by unfold XL;rw[hf];rfl
   rw[e];exact Zm _
def Hk (k:Qc) (l:QL) (h0:call tb 633 [] []=some (.bool true,[])) (hl:l.length<=1172812402961) (hr:QfP l):
  call tb 708 [.sl false 4 (Qb k),.sl false 8 (QD l)] []=some (.bool true,[]):=by
 have h1:=QjJ k l false false [] hl;rw[zcc 708 rfl rfl];cases hf: (few k 62 700 && LH l)
 ·rw[hf]at h1;simp[f708C,h0,h1]
 ·rw[hf]at h1;simp only[Qp]at hf;have hfd:=QqU hr hf.2;have hD:=Qib hf.1 hfd;have hL:=Qpw hf.1 hfd;have hll:=hfd.len;have c1:=QjE l false [] hll hfd.ac;have c2:=Qi3 l false [] hll hfd.ac;rw[QpT]at c2;have htm: ∀d∈XL l,d.a.length<=1000/\d.c.length<=1000/\d.t.mass < 1000000:=fun x hx=>by
   obtain⟨d,hd,e1,e2,e3⟩:=Qae x hx;have:=hfd.ac d hd;have:=hfd.mass d hd;rw[e1,e2,e3];omega
  have htl:=Qlt (l:=l);have c3:=Qga (XL l) false false [] (by omega) fun d hd=>by have:=htm d hd;omega
  have hD2:OV k (XL l):=⟨hD.km,hD.kl,fun d hd=>(htm d hd).2.2,fun d hd=>(htm d hd).1,fun d hd=>(htm d hd).2.1,by omega⟩;have hL2:Qam k (XL l):=⟨hD2,fun x hx=>by
   obtain⟨d,hd,e1,_,_⟩:=Qae x hx;rw[e1];exact hL.ki d hd⟩
  by_cases hne:l=[]
  ·subst hne;have ee:QD []=[]:=rfl;simp only[ee]at h1 c1 c2 ⊢;generalize QD (XL [])=M at *;simp[f708C,h0,h1,c1,c2,c3]
  ·obtain⟨d,e1,e2,e3⟩:=Og hne;have hpos:0 < l.length:=Tk.2 hne;have hg: (QD l)[l.length - 1]? =some (Za d):=by rw[Zr,e2];rfl
   have hl0: ¬(l.length:Int)=0:=by omega
   have hw:IntKind.i64.wrap ((l.length:Int) - 1)=((l.length - 1:Nat):Int):=by rw[Zf (by omega) (by omega)];omega
   have hnn: (0:Int)<=((l.length - 1:Nat):Int):=by omega
   have hcast: ((l.length - 1:Nat):Int).toNat=l.length - 1:=by omega
   have hdm:=hD.tm d e3;have c4:=Qjl k l d.t false false [] hD hdm;have c5:=Ad k (XL l) d.t false false [] hD2 hdm;have c6:=Al k l hL false false [];have c7:=Al k (XL l) hL2 false false [];have e4:=RC d;have htk: (Qf d.t).take 4=Qf d.t:=Qk d.t;have el:=SR l;have hed:=HQ d;rcases Vn (Pa k l d.t)with hdv | hdv
   ·rw[Qad hdv]at c5;rw[hdv]at c4;rcases Vn (K9 k l)with hlc | hlc
    ·rw[Qlu hlc]at c7;rw[hlc]at c6;generalize hn1:l.length - 1=n1 at *;generalize QD (XL l)=M at *;generalize QD l=L at *;generalize Za d=ED at *;simp[-getElem?_pos,f708C,h0,h1,c1,c2,c3,el,hne,hw,hnn,hcast,hg,e4,htk,hed,c4,c5,c6,c7]
    ·rw[hlc]at c6;generalize hn1:l.length - 1=n1 at *;generalize QD (XL l)=M at *;generalize QD l=L at *;generalize Za d=ED at *;simp[-getElem?_pos,f708C,h0,h1,c1,c2,c3,el,hne,hw,hnn,hcast,hg,e4,htk,hed,c4,c5,c6]
   ·rw[hdv]at c4;generalize hn1:l.length - 1=n1 at *;generalize QD (XL l)=M at *;generalize QD l=L at *;generalize Za d=ED at *;simp[-getElem?_pos,f708C,h0,h1,c1,c2,c3,el,hne,hw,hnn,hcast,hg,e4,htk,hed,c4]
def CE {T:VC} {K:Yy} (h:KLe K (call T)) {n:Nat}: ∀{c:AC} {σ:St} {x:Ex×St},ZN K n c σ=some x->run T c σ=some x:=by
 intro c
 induction c with
 | bad=>intro σ x he;simp[ZN]at he
 | skip=>intro σ x he;rw[CK];exact he
 | ret=>intro σ x he;rw[Qaa];exact he
 | exit id=>intro σ x he;rw[CG];exact he
 | reg d ops=>
  intro σ x he;rw[A9];simp only[ZN]at he;cases hr:Yi K ops σ with
  | none=>rw[hr]at he;cases he
  | some s=>rw[T3 h hr];rw[hr]at he;exact he
 | seq a b iha ihb=>
  intro σ x he;rw[Qab];simp only[ZN]at he;cases ha:ZN K n a σ with
  | none=>rw[ha]at he;cases he
  | some p=>
   obtain⟨e,s⟩:=p;rw[ha]at he;rw[iha ha];cases e
   ·exact ihb he
   ·exact he
   ·exact he
 | cond c a b iha ihb=>
  intro σ x he;rw[CF];simp only[ZN]at he;split at he
  ·rename_i hv;rw[hv];exact iha he
  ·rename_i hv;rw[hv];exact ihb he
  ·cases he
 | block id c ih=>
  intro σ x he;rw[Gf];simp only[ZN]at he;cases ha:ZN K n c σ with
  | none=>rw[ha]at he;cases he
  | some p=>rw[ha]at he;rw[ih ha];exact he
 | loop c ih=>
  intro σ x he;simp only[ZN]at he;have key: ∀(m:Nat) (σ:St) (x:Ex×St),TQ (ZN K n c) m σ=some x->run T (.loop c) σ=some x:=by
   intro m
   induction m with
   | zero=>intro σ x he;simp[TQ]at he
   | succ m IH=>
    intro σ x he;rw[CJ];simp only[TQ]at he;cases ha:ZN K n c σ with
    | none=>rw[ha]at he;cases he
    | some p=>
     obtain⟨e,s⟩:=p;rw[ha]at he;rw[ih ha];cases e
     ·exact IH _ _ he
     ·exact he
     ·exact he
  exact key n σ x he
abbrev Q5:=Nat×List AV×List (List AV)×AV×List (List AV)
abbrev QP:=List Q5
def Is:QP->Nat->Qh->Qa->Option (AV×Qa)
 | [],_,_,_=>none
 | (g,ar,b,v,b2):: fs,f,args,bs=>if(g == f && Ob b bs && U9 ar args)=true then some (v,b2)else Is fs f args bs
def Ke (T:VC) (fs:QP):Nat->Yy
 | 0,_,_,_=>none
 | n+1,f,args,bs=>match Is fs f args bs with
  | some r=>some r
  | none=>match T f with
   | none=>none
   | some (.orc g)=>g args bs
   | some (.code fn)=>
    if args.length=fn.nparams then
     match ZN (Ke T fs n) n fn.body {env:=XS args,bs}with
     | some (.normal,σ)=>XF fn bs σ
     | some (.ret,σ)=>XF fn bs σ
     | _=>none
    else none
def Pu (T:VC):QP->Prop
 | []=>True
 | (g,ar,b,v,b2):: fs=>call T g ar b=some (v,b2)/\Pu T fs
def Ci {T:VC}: ∀{fs:QP},Pu T fs->∀{f args bs r},Is fs f args bs=some r->call T f args bs=some r
 | [],_,_,_,_,_,h=>by simp[Is]at h
 | (g,ar,b,v,b2):: fs,hf,f,args,bs,r,h=>by
  simp only[Is]at h;split at h
  ·rename_i c;simp only[Qp,Up]at c;obtain⟨⟨rfl,e2⟩,e⟩:=c;have e:=VR _ _ e;have e2:=NA _ _ e2;subst e;subst e2;cases h;exact hf.1
  ·exact Ci hf.2 h
def KV {T:VC} {fs:QP} (hf:Pu T fs): ∀n,KLe (Ke T fs n) (call T)
 | 0,_,_,_,_,h=>by simp[Ke]at h
 | n+1,f,args,bs,r,h=>by
  simp only[Ke]at h;split at h
  ·rename_i r' hl;cases h;exact Ci hf hl
  ·rw[Ha];have ih:=KV hf n;split at h
   ·cases h
   ·rename_i g hg;rw[hg];exact h
   ·rename_i fn hg;rw[hg];simp only;split at h
    ·rename_i hl;rw[Qn hl];split at h
     ·rename_i σ hr;rw[CE ih hr];exact h
     ·rename_i σ hr;rw[CE ih hr];exact h
     ·cases h
    ·cases h
def Q6 (T:VC) (L:QP) (x:Q5):Option (AV×Qa):=Ke T L 400 x.1 x.2.1 x.2.2.1
def Q8 {T:VC} {L:QP} {x:Q5} (o:Pu T L) (c:Q6 T L x=some x.2.2.2):Pu T (x:: L):=⟨KV o _ _ _ _ _ c,o⟩
def Qh6:Qu:=[101,110,99,40,109,58,97,110,121,44,32,107,58,107,101,121,41]
def Jo:Qh:=[.int .i64 2,.str [109],.int .i64 0,.sl false 4 []]
def GH:Qh:=[.int .i64 2,.str [107],.int .i64 3,.sl false 4 []]
def Qap:Qh:=[.int .i64 3,.str [101,110,99],.int .i64 0,.sl false 4 [Jo,GH]]
def Qh7:Qu:=[112,97,105,114,40,110,58,110,111,110,99,101,44,32,107,58,107,101,121,41]
def Qh8:Qa:=[[.int .i64 2,.str [110],.int .i64 2,.sl false 4 []],GH]
def Qaq:Qh:=[.int .i64 3,.str [112,97,105,114],.int .i64 0,.sl false 4 Qh8]
def Qh9:Qh:=[.int .i64 1,.int .i64 0,.sl false 1 [],.sl false 1 [],.int .i64 3,.str [101,110,99],.int .i64 0,.sl false 4 [Jo,GH]]
def Qia:Qh:=[.int .i64 1,.int .i64 1,.sl false 1 [],.sl false 1 [],.int .i64 3,.str [112,97,105,114],.int .i64 0,.sl false 4 Qh8]
def GI:Qa:=[[.int .i64 1]]
def Qds:Qh:=[.int .i64 5,.int .i64 0,.sl false 1 GI,.sl false 1 [],.int .i64 2,.str [107],.int .i64 3,.sl false 4 []]
def Qdt:Qu:=[109,58,97,110,121]
def Qdu:Qh:=[.int .i64 7,.int .i64 0,.sl false 1 [[.int .i64 0],[.int .i64 2]],.sl false 1 [],.int .i64 2,.str [109],.int .i64 0,.sl false 4 []]
def O8:Qa:=[Qh9,Qia,Qds,Qdu]
def VA:Qh:=[.int .i64 2,.str [97],.int .i64 0,.sl false 4 []]
def O9:Qh:=[.int .i64 2,.str [98],.int .i64 0,.sl false 4 []]
def Jp:Qh:=[.int .i64 3,.str [120,111,114],.int .i64 0,.sl false 4 [VA,O9]]
def Jq:Qa:=[Jp,O9]
def GY:Qa:=[VA,O9,Jp]
def Jr:Qa:=[O9,Jp]
def GZ:Qa:=[[.int .i64 0],[.int .i64 1]]
def Qdv:Qh:=[.sl false 1 GZ,.int .i64 0]
def Qdw:Qh:=[.bool true,.int .i64 0]
def Qdx:Qh:=[.int .i64 1,.int .i64 0,.sl false 1 [],.sl false 1 [],.int .i64 3,.str [120,111,114],.int .i64 0,.sl false 4 [VA,O9]]
def Qdy:Qh:=[.int .i64 1,.int .i64 1,.sl false 1 [],.sl false 1 [],.int .i64 2,.str [98],.int .i64 0,.sl false 4 []]
def SB:Qa:=[[.sl true 8 [Qdx,Qdy]]]
def RK:Qh:=[.agg [.int .i64 0,.int .i64 0,.sl false 1 [],.sl false 1 [],.int .i64 0,.str [],.int .i64 0,.sl false 4 []],.bool false]
def Qdz:Qh:=[.int .i64 14,.int .i64 0,.sl false 1 GZ,.sl false 1 [],.int .i64 2,.str [97],.int .i64 0,.sl false 4 []]
def QdA:Qa:=[Qdx,Qdy,Qdz]
def MN:Qu:=[101,120,112]
def SC:Qh:=[.int .i64 2,.str [103],.int .i64 4,.sl false 4 []]
def Wo:Qh:=[.int .i64 2,.str [120],.int .i64 2,.sl false 4 []]
def RL:Qh:=[.int .i64 3,.str MN,.int .i64 0,.sl false 4 [SC,Wo]]
def SD:Qh:=[.int .i64 2,.str [121],.int .i64 2,.sl false 4 []]
def G0:Qu:=[109,117,108]
def G1:Qa:=[Wo,SD]
def WY:Qh:=[.int .i64 3,.str G0,.int .i64 0,.sl false 4 G1]
def G2:Qa:=[SC,WY]
def Vl:Qh:=[.int .i64 3,.str MN,.int .i64 0,.sl false 4 G2]
def G3:Qa:=[RL,SD]
def QdB:Qa:=[SC,Wo,SD,RL,WY,Vl]
def SE:Qh:=[.sl false 1 [],.int .i64 4]
def VT:Qa:=[SC,SD,RL]
def QdC:Qh:=[.int .i64 2,.str [120],.int .i64 2,.sl false 4 [],.int .i64 1]
def Na:Qa:=[QdC]
def QdD:Qh:=[.int .i64 2,.str [121],.int .i64 2,.sl false 4 [],.int .i64 1]
def Js:Qa:=[QdC,QdD]
def QdE:Qa:=[[.sl false 4 VT],SC,[.sl false 5 Js]]
def Tf:Qa:=[SC,SD,RL,Vl]
def G4:Qh:=[.int .i64 1,.int .i64 0,.sl false 1 [],.sl false 1 [],.int .i64 3,.str MN,.int .i64 0,.sl false 4 [SC,Wo]]
def G5:Qh:=[.int .i64 1,.int .i64 1,.sl false 1 [],.sl false 1 [],.int .i64 2,.str [121],.int .i64 2,.sl false 4 []]
def QdF:Qh:=[.int .i64 2,.int .i64 0,.sl false 1 [],.sl false 1 [],.int .i64 2,.str [103],.int .i64 4,.sl false 4 []]
def QdG:Qh:=[.sl true 8 [G4,G5,QdF]]
def ZU:Qa:=[QdG]
def G6:Qa:=[RL,SD,SC]
def Jt:Qa:=[QdG,[.gp 0 0]]
def QdH:Qh:=[.sl false 1 [],.sl false 1 [],.bool false]
def G7:Qh:=[.int .i64 15,.int .i64 0,.sl false 1 GZ,.sl false 1 GI,.int .i64 3,.str MN,.int .i64 0,.sl false 4 G2]
def MO:Qa:=[Qap,Qaq]
def Qao:QP:=[]
def Qar:Q5:=(634,[.str Qh6],[],.agg Qap,[])
def QhX:QP:=Qar:: Qao
def Qas:Q5:=(634,[.str Qh7],[],.agg Qaq,[])
def QhY:QP:=Qas:: QhX
def Qat:Q5:=(649,[.str Qh6],[],.tup [.agg Qap,.int .i64 0],[])
def QhZ:QP:=Qat:: QhY
def Qau:Q5:=(646,[.str [103,105,118,101,110,32,48,58,32,101,110,99,40,109,58,97,110,121,44,32,107,58,107,101,121,41]],[],.tup [.agg Qh9,.bool true],[])
def Qh0:QP:=Qau:: QhZ
def Qav:Q5:=(649,[.str Qh7],[],.tup [.agg Qaq,.int .i64 0],[])
def Qh1:QP:=Qav:: Qh0
def Qaw:Q5:=(646,[.str [103,105,118,101,110,32,49,58,32,112,97,105,114,40,110,58,110,111,110,99,101,44,32,107,58,107,101,121,41]],[],.tup [.agg Qia,.bool true],[])
def Qh2:QP:=Qaw:: Qh1
def Qax:Q5:=(649,[.str [107,58,107,101,121]],[],.tup [.agg GH,.int .i64 0],[])
def Qh3:QP:=Qax:: Qh2
def Qay:Q5:=(646,[.str [115,101,99,111,110,100,32,49,58,32,107,58,107,101,121]],[],.tup [.agg Qds,.bool true],[])
def Qh4:QP:=Qay:: Qh3
def Qaz:Q5:=(649,[.str Qdt],[],.tup [.agg Jo,.int .i64 0],[])
def Qh5:QP:=Qaz:: Qh4
def QaA:Q5:=(646,[.str [100,101,99,32,48,32,50,58,32,109,58,97,110,121]],[],.tup [.agg Qdu,.bool true],[])
def Qb9:QP:=QaA:: Qh5
def G8:Q5:=(635,[.str [103,105,118,101,110,32,48,58,32,101,110,99,40,109,58,97,110,121,44,32,107,58,107,101,121,41,10,103,105,118,101,110,32,49,58,32,112,97,105,114,40,110,58,110,111,110,99,101,44,32,107,58,107,101,121,41,10,115,101,99,111,110,100,32,49,58,32,107,58,107,101,121,10,100,101,99,32,48,32,50,58,32,109,58,97,110,121,10]],[],.tup [.sl false 8 O8,.int .i64 0],[])
def Qca:QP:=G8:: Qb9
def G9:Q5:=(634,[.str [120,111,114,40,97,58,97,110,121,44,32,98,58,97,110,121,41]],[],.agg Jp,[])
def Qcb:QP:=G9:: Qca
def Fa:Q5:=(634,[.str [98,58,97,110,121]],[],.agg O9,[])
def Qcc:QP:=Fa:: Qcb
def Fb:Q5:=(634,[.str [97,58,97,110,121]],[],.agg VA,[])
def Qcd:QP:=Fb:: Qcc
def Fc:Q5:=(518,[.sl false 4 Jq,.sl false 4 [VA]],[],.tup [.sl false 4 GY,.int .i64 0],[])
def Qce:QP:=Fc:: Qcd
def Fe:Q5:=(541,[.sl false 4 Jr,.agg VA],[],.tup Qdv,[])
def Qcf:QP:=Fe:: Qce
def Ff:Q5:=(539,[.sl false 4 Jr,.agg VA],[],.bool true,[])
def Qcg:QP:=Ff:: Qcf
def Fg:Q5:=(531,[.sl false 4 Jr,.agg VA],[],.bool true,[])
def Qch:QP:=Fg:: Qcg
def Fh:Q5:=(529,[.sl false 4 Jr,.sl false 4 GY],[],.sl false 4 GY,[])
def Qci:QP:=Fh:: Qch
def Fi:Q5:=(517,[.sl false 4 Jq,.agg VA],[],.tup Qdw,[])
def Qcj:QP:=Fi:: Qci
def Fj:Q5:=(736,[.gp 0 0,.agg VA],SB,.tup RK,SB)
def Qck:QP:=Fj:: Qcj
def Fk:Q5:=(738,[.gp 0 0,.agg VA],SB,.tup RK,SB)
def Qcl:QP:=Fk:: Qck
def Fl:Q5:=(541,[.sl false 4 Jq,.agg VA],SB,.tup Qdv,SB)
def Qcm:QP:=Fl:: Qcl
def Fm:Q5:=(739,[.gp 0 0,.agg VA],SB,.tup [.agg Qdz,.bool true],SB)
def Qcn:QP:=Fm:: Qcm
def Fo:Q5:=(667,[.gp 0 0,.agg VA],SB,.bool true,[[.sl true 8 QdA]])
def Qco:QP:=Fo:: Qcn
def Fp:Q5:=(663,[.sl false 4 Jq,.agg VA],[],.tup [.sl false 8 QdA,.int .i64 0],[])
def Qcp:QP:=Fp:: Qco
def Fq:Q5:=(634,[.str [101,120,112,40,103,58,100,97,116,97,44,32,120,58,110,111,110,99,101,41]],[],.agg RL,[])
def Qcq:QP:=Fq:: Qcp
def Fr:Q5:=(634,[.str [121,58,110,111,110,99,101]],[],.agg SD,[])
def Qcr:QP:=Fr:: Qcq
def Fs:Q5:=(634,[.str [101,120,112,40,103,58,100,97,116,97,44,32,109,117,108,40,120,58,110,111,110,99,101,44,32,121,58,110,111,110,99,101,41,41]],[],.agg Vl,[])
def Qcs:QP:=Fs:: Qcr
def Ft:Q5:=(518,[.sl false 4 G3,.sl false 4 [Vl]],[],.tup [.sl false 4 QdB,.int .i64 0],[])
def Qct:QP:=Ft:: Qcs
def Fu:Q5:=(531,[.sl false 4 [SD,RL],.agg SC],[],.bool true,[])
def Qcu:QP:=Fu:: Qct
def Fv:Q5:=(541,[.sl false 4 [],.agg Wo],[],.tup SE,[])
def Qcv:QP:=Fv:: Qcu
def Fw:Q5:=(539,[.sl false 4 VT,.agg Wo],[],.bool false,[])
def Qcw:QP:=Fw:: Qcv
def Fx:Q5:=(552,[.sl false 4 VT,.agg Wo],[],.bool false,[])
def Qcx:QP:=Fx:: Qcw
def Fy:Q5:=(560,[.sl false 1 [],.sl false 5 Na],[],.tup SE,[])
def Qcy:QP:=Fy:: Qcx
def Fz:Q5:=(555,[.sl false 4 VT,.sl false 5 Na],[],.bool false,[])
def Qcz:QP:=Fz:: Qcy
def FA:Q5:=(568,[.sl false 4 VT,.agg Wo],[],.bool false,[])
def QcA:QP:=FA:: Qcz
def FB:Q5:=(531,[.sl false 4 VT,.agg Wo],[],.bool false,[])
def QcB:QP:=FB:: QcA
def FC:Q5:=(541,[.sl false 4 [],.agg WY],[],.tup SE,[])
def QcC:QP:=FC:: QcB
def FE:Q5:=(539,[.sl false 4 VT,.agg WY],[],.bool false,[])
def QcD:QP:=FE:: QcC
def FF:Q5:=(552,[.sl false 4 VT,.agg WY],[],.bool false,[])
def QcE:QP:=FF:: QcD
def FG:Q5:=(555,[.sl false 4 VT,.sl false 5 Js],[],.bool false,[])
def QcF:QP:=FG:: QcE
def FH:Q5:=(568,[.sl false 4 VT,.agg WY],[],.bool false,[])
def QcG:QP:=FH:: QcF
def FI:Q5:=(531,[.sl false 4 VT,.agg WY],[],.bool false,[])
def QcH:QP:=FI:: QcG
def FJ:Q5:=(541,[.sl false 4 [],.agg Vl],[],.tup SE,[])
def QcI:QP:=FJ:: QcH
def FK:Q5:=(539,[.sl false 4 VT,.agg Vl],[],.bool false,[])
def QcJ:QP:=FK:: QcI
def FL:Q5:=(560,[.sl false 1 [],.sl false 5 Na],QdE,.tup SE,QdE)
def QcK:QP:=FL:: QcJ
def FM:Q5:=(552,[.sl false 4 VT,.agg Vl],[],.bool true,[])
def QcL:QP:=FM:: QcK
def FN:Q5:=(531,[.sl false 4 VT,.agg Vl],[],.bool true,[])
def QcM:QP:=FN:: QcL
def FO:Q5:=(539,[.sl false 4 Tf,.agg Wo],[],.bool false,[])
def QcN:QP:=FO:: QcM
def FP:Q5:=(552,[.sl false 4 Tf,.agg Wo],[],.bool false,[])
def QcO:QP:=FP:: QcN
def FQ:Q5:=(555,[.sl false 4 Tf,.sl false 5 Na],[],.bool false,[])
def QcP:QP:=FQ:: QcO
def FR:Q5:=(568,[.sl false 4 Tf,.agg Wo],[],.bool false,[])
def QcQ:QP:=FR:: QcP
def FT:Q5:=(531,[.sl false 4 Tf,.agg Wo],[],.bool false,[])
def QcR:QP:=FT:: QcQ
def FU:Q5:=(539,[.sl false 4 Tf,.agg WY],[],.bool false,[])
def QcS:QP:=FU:: QcR
def FV:Q5:=(552,[.sl false 4 Tf,.agg WY],[],.bool false,[])
def QcT:QP:=FV:: QcS
def FW:Q5:=(555,[.sl false 4 Tf,.sl false 5 Js],[],.bool false,[])
def QcU:QP:=FW:: QcT
def FX:Q5:=(568,[.sl false 4 Tf,.agg WY],[],.bool false,[])
def QcV:QP:=FX:: QcU
def FY:Q5:=(531,[.sl false 4 Tf,.agg WY],[],.bool false,[])
def QcW:QP:=FY:: QcV
def FZ:Q5:=(529,[.sl false 4 [SD,RL],.sl false 4 QdB],[],.sl false 4 Tf,[])
def QcX:QP:=FZ:: QcW
def F0:Q5:=(517,[.sl false 4 G3,.agg Vl],[],.tup Qdw,[])
def QcY:QP:=F0:: QcX
def F1:Q5:=(736,[.gp 0 0,.agg Wo],ZU,.tup RK,ZU)
def QcZ:QP:=F1:: QcY
def F2:Q5:=(738,[.gp 0 0,.agg Wo],ZU,.tup RK,ZU)
def Qc0:QP:=F2:: QcZ
def F3:Q5:=(541,[.sl false 4 G6,.agg Wo],ZU,.tup SE,ZU)
def Qc1:QP:=F3:: Qc0
def F4:Q5:=(739,[.gp 0 0,.agg Wo],ZU,.tup [.agg [.int .i64 14,.int .i64 0,.sl false 1 [],.sl false 1 [],.int .i64 2,.str [120],.int .i64 2,.sl false 4 []],.bool false],ZU)
def Qc2:QP:=F4:: Qc1
def F5:Q5:=(560,[.sl false 1 [],.sl false 5 Na],Jt,.tup SE,Jt)
def Qc3:QP:=F5:: Qc2
def F6:Q5:=(742,[.gp 0 0,.sl false 5 Na],ZU,.tup QdH,ZU)
def Qc4:QP:=F6:: Qc3
def F7:Q5:=(741,[.gp 0 0,.agg Wo],ZU,.tup [.agg [.int .i64 16,.int .i64 0,.sl false 1 [],.sl false 1 [],.int .i64 2,.str [120],.int .i64 2,.sl false 4 []],.bool false],ZU)
def Qc5:QP:=F7:: Qc4
def F8:Q5:=(667,[.gp 0 0,.agg Wo],ZU,.bool false,ZU)
def Qc6:QP:=F8:: Qc5
def F9:Q5:=(736,[.gp 0 0,.agg WY],ZU,.tup RK,ZU)
def Qc7:QP:=F9:: Qc6
def Ea:Q5:=(738,[.gp 0 0,.agg WY],ZU,.tup RK,ZU)
def Qc8:QP:=Ea:: Qc7
def Eb:Q5:=(541,[.sl false 4 G6,.agg WY],ZU,.tup SE,ZU)
def Qc9:QP:=Eb:: Qc8
def Ec:Q5:=(739,[.gp 0 0,.agg WY],ZU,.tup [.agg [.int .i64 14,.int .i64 0,.sl false 1 [],.sl false 1 [],.int .i64 3,.str G0,.int .i64 0,.sl false 4 G1],.bool false],ZU)
def Qda:QP:=Ec:: Qc9
def Ed:Q5:=(742,[.gp 0 0,.sl false 5 Js],ZU,.tup QdH,ZU)
def Qdb:QP:=Ed:: Qda
def Ee:Q5:=(741,[.gp 0 0,.agg WY],ZU,.tup [.agg [.int .i64 16,.int .i64 0,.sl false 1 [],.sl false 1 [],.int .i64 3,.str G0,.int .i64 0,.sl false 4 G1],.bool false],ZU)
def Qdc:QP:=Ee:: Qdb
def Ef:Q5:=(667,[.gp 0 0,.agg WY],ZU,.bool false,ZU)
def Qdd:QP:=Ef:: Qdc
def Eh:Q5:=(736,[.gp 0 0,.agg Vl],ZU,.tup RK,ZU)
def Qde:QP:=Eh:: Qdd
def Ei:Q5:=(738,[.gp 0 0,.agg Vl],ZU,.tup RK,ZU)
def Qdf:QP:=Ei:: Qde
def Ej:Q5:=(541,[.sl false 4 G6,.agg Vl],ZU,.tup SE,ZU)
def Qdg:QP:=Ej:: Qdf
def Ek:Q5:=(739,[.gp 0 0,.agg Vl],ZU,.tup [.agg [.int .i64 14,.int .i64 0,.sl false 1 [],.sl false 1 [],.int .i64 3,.str MN,.int .i64 0,.sl false 4 G2],.bool false],ZU)
def Qdh:QP:=Ek:: Qdg
def Em:Q5:=(560,[.sl false 1 [],.sl false 5 []],Jt,.tup [.sl false 1 [],.int .i64 0],Jt)
def Qdi:QP:=Em:: Qdh
def Eo:Q5:=(742,[.gp 0 0,.sl false 5 [QdD]],ZU,.tup [.sl false 1 GI,.sl false 1 GI,.bool true],ZU)
def Qdj:QP:=Eo:: Qdi
def Ep:Q5:=(741,[.gp 0 0,.agg Vl],ZU,.tup [.agg G7,.bool true],ZU)
def Qdk:QP:=Ep:: Qdj
def Er:Q5:=(667,[.gp 0 0,.agg Vl],ZU,.bool true,[[.sl true 8 [G4,G5,QdF,G7]]])
def Qdl:QP:=Er:: Qdk
def Et:Q5:=(663,[.sl false 4 G3,.agg Vl],[],.tup [.sl false 8 [G4,G5,G7],.int .i64 0],[])
def Qdm:QP:=Et:: Qdl
def Eu:Q5:=(634,[.str Qdt],[],.agg Jo,[])
def Qdn:QP:=Eu:: Qdm
def Ev:Q5:=(351,[.sl false 4 MO,.sl false 8 O8,.int .i64 0],[],.bool true,[])
def Qdo:QP:=Ev:: Qdn
def Ew:Q5:=(351,[.sl false 4 MO,.sl false 8 O8,.int .i64 1],[],.bool true,[])
def Qdp:QP:=Ew:: Qdo
def Ey:Q5:=(351,[.sl false 4 MO,.sl false 8 O8,.int .i64 2],[],.bool true,[])
def Qdq:QP:=Ey:: Qdp
def Ez:Q5:=(351,[.sl false 4 MO,.sl false 8 O8,.int .i64 3],[],.bool true,[])
def Qdr:QP:=Ez:: Qdq
def EB:Q5:=(348,[.sl false 4 MO,.sl false 8 O8,.agg Jo],[],.bool true,[])
def Qm3:QP:=EB:: Qdr
end Go.Am
