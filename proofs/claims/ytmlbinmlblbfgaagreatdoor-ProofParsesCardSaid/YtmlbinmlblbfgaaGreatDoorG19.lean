/-
  Pf2, Pf3, Pf4, Kn52, Kn53, Kn54, Kn55, Kn56, Kn57, Kn58, Kn59, Kn60, Kn19, Kn21, Kn61, Kn62, Kn63, Kn64, Kn65, Kn66, Rc43, Rc44, Rc45, Kn67, Kn68, Kn40, Kn41, Kn42, Kn43, Kn44, Kn69, Kn70, Kn71, Kn72, Kn73, Kn74, Pf5, Pf8, Pf20, Pf21, Pf22, Pf23, Pf24, Pf25, Pf26, Pf27, Pf28, Pf29, Pf30, Pf31, Pf32, Pf33, Pf34, Pf35, Pf36.
-/
import Derived.Test.YtmlbinmlblbfgaaGreatDoorG17
import Derived.Test.YtmlbinmlblbfgaaGreatDoorG16
import Derived.Test.YtmlbinmlblbfgaaGreatDoorG15
set_option linter.all false
open Go.Am.F
namespace Go.Am
set_option maxRecDepth 20000
def Qjh (rs:YJ):Qf:=rs.map fun r=>AV.sl false 1 (ZD r)
def usB (us:Y3):Qf:=us.map AV.bool
structure EJ (B0 B:List (List AV)) (rs:List (List Int)) (us:List Bool) (piv:List Int) (idr idu:Nat) (pv:AV):Prop where
 hr:B[idr]? =some (Qjh rs)
 hu:B[idu]? =some (usB us)
 hp:IS B0 B pv piv
 n1:B0.length<=idr
 n2:idr < idu
 n4: ∀id,pv= .gs id 0 1 piv.length->piv≠[]->idu < id
 ul:us.length=rs.length
def EJ.app {B0 B:Qd} {rs:YJ} {us:Y3} {piv:QH} {idr idu:Nat} {pv:AV} (h:EJ B0 B rs us piv idr idu pv) (x:Int) (o:Bool) (hl:piv.length < 1000000):
  ∃B',appM 8 1 pv (.sl o 1 [[.int .i64 x]]) B=some (.gs B.length 0 1 (piv.length+1),B')/\EJ B0 B' rs us (piv ++ [x]) idr idu (.gs B.length 0 1 (piv.length+1)):=by
 have hrl:=Uk h.hr;have hul:=Uk h.hu;have n2:=h.n2;have n1:=h.n1;obtain⟨hP,h2⟩:=h.hp;have hsr:WF 1 (.sl o 1 [[AV.int .i64 x]]) B=some (1,[.int .i64 x]):=by simp[WF]
 rcases h2 with⟨e1,e2⟩ | ⟨id,e1,e2,e3,e4⟩
 ·subst e1;subst e2
  refine⟨B ++ [[.int .i64 x]],?_,⟨YS h.hr _,YS h.hu _,⟨hP.app _,.inr ⟨B.length,rfl,by simp,by obtain⟨M,rfl⟩:=hP;simp,Qc3 _ _ _⟩⟩,n1,n2,fun id hid _=>by injection hid with hid;omega,h.ul⟩⟩;simp[appM,hsr]
 ·subst e1;have hid:=h.n4 id rfl e2;have hidl:=Uk e4;have hne0: ¬piv.length=0:=fun e=>e2 (VK e);have hrl2: (Wj piv).length=piv.length:=QaC piv;have hne:Wj piv≠[]:=fun e=>by rw[e]at hrl2;exact hne0 hrl2.symm
  have hst: (Wj piv).map AV.strip=Wj piv:=by simp[Wj,AV.strip]
  refine⟨B.set id []++ [Wj piv ++ [.int .i64 x]],?_,⟨YS (by rw[YE,Qe (by omega)];exact h.hr) _,YS (by rw[YE,Qe (by omega)];exact h.hu) _,⟨(hP.set e3 _).app _,.inr ⟨B.length,by simp,by simp,by obtain⟨M,rfl⟩:=hP;simp,?_⟩⟩,n1,n2,fun id2 hid2 _=>by injection hid2 with hid2;omega,h.ul⟩⟩
  ·simp only[appM,hsr,Qt];rw[Qh ⟨by omega,by omega⟩,Qe (by omega),Qe (by omega),Qh ⟨trivial,trivial⟩,e4];simp only[Qt];rw[Qh ⟨hne,by omega⟩,Qe (by omega),Ub,<- hrl2,VM (Za _),hst]
  ·have e:B.length=(B.set id []).length:=by simp
   rw[e,Wq];simp[Wj]
def W7.trans {B0 B B':Qd} (h:W7 B0 B) (h2:W7 B B'):W7 B0 B':=by
 obtain⟨M,rfl⟩:=h;obtain⟨M2,rfl⟩:=h2;exact⟨M ++ M2,by simp⟩
def W7.len {B0 B:Qd} (h:W7 B0 B):B0.length<=B.length:=by
 obtain⟨M,rfl⟩:=h;simp
def aE (rs:YJ) (c i:Nat):Nat:=(ceE rs i c).natAbs
structure S4 where
 a0:Nat
 x0:Nat
 a1:Nat
 x1:Nat
 a2:Nat
 x2:Nat
 a3:Nat
 x3:Nat
def S4.a (s:S4):Q9
 | 0=>s.a0
 | 1=>s.a1
 | 2=>s.a2
 | _=>s.a3
def S4.x (s:S4):Q9
 | 0=>s.x0
 | 1=>s.x1
 | 2=>s.x2
 | _=>s.x3
def rA (p:Bool) (m a:Nat):Nat:=if p then a else a % m
def rX (p:Bool) (m y a x:Nat):Nat:=if p then x else x+a / m*y
def S4.step (s:S4) (b:Nat):S4:=
 ⟨rA (b == 0) (s.a b) s.a0,rX (b == 0) (s.a b) (s.x b) s.a0 s.x0,rA (b == 1) (s.a b) s.a1,rX (b == 1) (s.a b) (s.x b) s.a1 s.x1,
  rA (b == 2) (s.a b) s.a2,rX (b == 2) (s.a b) (s.x b) s.a2 s.x2,rA (b == 3) (s.a b) s.a3,rX (b == 3) (s.a b) (s.x b) s.a3 s.x3⟩
def S4.min (s:S4) (b:Nat):Bool:=s.a b != 0 && (s.a0 == 0 || Nat.ble (s.a b) s.a0) && (s.a1 == 0 || Nat.ble (s.a b) s.a1) && (s.a2 == 0 || Nat.ble (s.a b) s.a2) && (s.a3 == 0 || Nat.ble (s.a b) s.a3)
def nz1 (n:Nat):Nat:=if n == 0 then 0 else 1
def S4.one (s:S4):Bool:=Nat.ble (nz1 s.a0+nz1 s.a1+nz1 s.a2+nz1 s.a3) 1
def Rj:QS->Nat
 | []=>0
 | d:: l=>d.a.length+d.c.length+Rj l
def Ai (l:QS):Prop:=∀d∈l,d.a.length<=17592186044416/\d.c.length<=17592186044416
def Gm: ∀(l:QS) (n:Int),Ai l->0<=n->n+l.length*35184372088832 < 9223372036854775808->Rk n l=n+Rj l
 | [],n,_,_,_=>by simp[Rk,Rj]
 | d:: l,n,h,h0,hb=>by
  obtain⟨h1,h2⟩:=h d (by simp);have hb':n+ ((l.length:Int)+1)*35184372088832 < 9223372036854775808:=by simpa using hb
  have hb2:n+ (d.a.length:Int)+d.c.length+ (l.length:Int)*35184372088832 < 9223372036854775808:=by omega
  have hl0: (0:Int)<=(l.length:Int)*35184372088832:=by omega
  have w1:IntKind.i64.wrap (n+d.a.length)=n+d.a.length:=Q2 (by omega) (by omega);have w2:IntKind.i64.wrap (n+d.a.length+d.c.length)=n+d.a.length+d.c.length:=Q2 (by omega) (by omega);simp only[Rk,w1,w2,Rj];rw[Gm l _ (fun x hx=>h x (by simp[hx])) (by omega) hb2];omega
def J9: ∀{l:QS} {d:Ded},d∈l->d.a.length+d.c.length<=Rj l
 | [],d,h=>by simp at h
 | x:: l,d,h=>by
  rcases Yd.1 h with rfl | h
  ·simp only[Rj];omega
  ·have:=J9 h;simp only[Rj];omega
structure FD (l:List Ded):Prop where
 len:l.length<=410
 ac: ∀d∈l,d.a.length<=1000/\d.c.length<=1000
 cnt:Rj l<=1000
 mass: ∀d∈l,d.t.mass<=126000
 nodes:QK (l.map Ded.t)<=3000
def QiZ {l:QS} (hr:Ai l) (h:OG l=true):FD l:=by
 have hl:=Qc1 h;simp only[OG,Qi,Qm]at h;obtain⟨h1,h2⟩:=h;rw[Gm l 0 hr (by omega) (by omega)]at h1;have hc:Rj l<=1000:=by omega
 obtain⟨m1,m2,m3⟩:=AU (by omega) h2;refine⟨hl,fun d hd=> ?_,hc,fun d hd=> ?_,by simpa using m3⟩
 ·have:=J9 hd;omega
 ·have:d.t.mass<=Zs (l.map Ded.t):=Yp (List.mem_map_of_mem hd);simp at m2;omega
def Wt (q:Qb): (Ze q).length=q.length:=by simp[Ze]
def Fo (a b:Qb):Ze (a ++ b)=Ze a ++ Ze b:=by simp[Ze]
def JT (q:Qb): (Ze q).map AV.strip=Ze q:=by simp[Ze]
def BD (B0 B:Qd) (id:Nat) (s:Qb):Prop:=W7 B0 B/\B0.length<=id/\
 ((s=[]/\(B[id]? =some [.nlp,.gs 0 1 0 0]\/B[id]? =some [.gp id 0,.gs 0 1 0 0]))\/
  ∃ib,ib≠id/\B0.length<=ib/\B[id]? =some [.gp id 0,.gb 5 ib s.length]/\s≠[]/\B[ib]? =some (Ze s))
def SD: ∀s:Qb,Ux ((Ze s).map fun c=>[c])=some s
 | []=>rfl
 | b:: s=>by
  have ih:=SD s;have hb:b.toNat < 256:=b.toNat_lt;have h1:Nv [.int .u8 (b.toNat:Int)]=some b:=by
   simp only[Nv];rw[Qh ⟨by omega,by omega⟩];simp
  simp only[Ze,ZP,Ux]at ih ⊢;rw[h1,Qt,ih];rfl
def JV (s:Qb):Yi (Ze s) 0 1 s.length=(Ze s).map fun c=>[c]:=by
 apply TW;intro i;simp only[Yi,QP,Ub,Xm];by_cases h:i < s.length
 ·have hl:i < (Ze s).length:=by rw[Wt];exact h
  rw[SN h,Zr hl];have h1: (Ze s)[i]= .int .u8 (s[i]).toNat:=by simp[Ze]
  have h2: ((Ze s).drop i).take 1=[(Ze s)[i]]:=by rw[O1 hl];rfl
  simp only[QA,h2,ZP,Y5,h1];rfl
 ·rw[QT (by simpa using h),QT (by rw[Wt];omega)];rfl
def Al (q:Qb) (hq:q≠[]) (B:Qd) (hl:q.length<=140737488355328):WS 5 (.gs 0 1 0 0) (q.length,Ze q) B=some (.gb 5 B.length q.length,B ++ [Ze q]):=by
 have h0: ¬q.length=0:=fun e=>hq (VK e);have h1:0 < q.length:=by omega
 simp[WS,VR,PW,h0,h1,hl,hq]
def SQ:=@false_and
def Cu {s q:Qb} (hs:s≠[]) (hq:q≠[]) {B:Qd} {ib:Nat} (hB:B[ib]? =some (Ze s)) (hl:s.length+q.length<=140737488355328):
  WS 5 (.gb 5 ib s.length) (q.length,Ze q) B=some (.gb 5 B.length (s ++ q).length,B.set ib []++ [Ze (s ++ q)]):=by
 have h0: ¬q.length=0:=fun e=>hq (VK e);have h2: ¬s.length=0:=fun e=>hs (VK e);have h3:Ze s≠[]:=fun e=>h2 (by rw[<- Wt,e];rfl);have h4: ¬s.length+q.length<=(Ze s).length:=by rw[Wt];omega
 have h5:s.length<=(Ze s).length:=by rw[Wt];omega
 have h6: (Ze s).take s.length=Ze s:=VM (by rw[Wt];exact Za _);have h7:0 < s.length+q.length:=by omega
 simp only[WS,QF,VR,Ub,hl,h0,QC,hB,Qt,h3,h5,h4,h6,JT,PW,h7,QA,ne_eq,R9,and_self,ZB,Nat.zero_lt_one,Nat.one_ne_zero,SQ,and_true,Pa];simp[Fo]
def Cv (v:AV) (B:Qd) (hv:v= .gs 0 1 0 0\/∃ib n,v= .gb 5 ib n/\0 < n/\n<=140737488355328):WS 5 v (0,[]) B=some (v,B):=by
 rcases hv with rfl | ⟨ib,n,rfl,h,h2⟩
 ·simp[WS,VR,PW]
 ·simp[WS,VR,PW,h,h2]
def Qbr {B0 B:Qd} {id:Nat} {s:Qb} (h:BD B0 B id s): ∃v B1,call tb 660 [.gt 48 id] B=some (.tup [],B1)/\W7 B0 B1/\B1.length=B.length/\B1[id]? =some [.gp id 0,v]/\
  ((s=[]/\v= .gs 0 1 0 0)\/∃ib,ib≠id/\B0.length<=ib/\v= .gb 5 ib s.length/\s≠[]/\B1[ib]? =some (Ze s)):=by
 obtain⟨hP,hid,h⟩:=h;rcases h with⟨rfl,h | h⟩ | ⟨ib,h1,h2,h3,h4,h5⟩
 ·refine⟨.gs 0 1 0 0,B.set id [.gp id 0,.gs 0 1 0 0],?_,hP.set hid _,by simp,VN (Uk h),.inl ⟨rfl,rfl⟩⟩;rw[Wu tb_660];simp only[ccO,QF,h,F.tyB]
 ·refine⟨.gs 0 1 0 0,B,?_,hP,rfl,h,.inl ⟨rfl,rfl⟩⟩;rw[Wu tb_660];simp only[ccO,QF,h,F.tyB]
 ·refine⟨_,B,?_,hP,rfl,h3,.inr ⟨ib,h1,h2,rfl,h4,h5⟩⟩;rw[Wu tb_660];simp only[ccO,QF,h3,F.tyB]
def JS {B0 B1:Qd} {id:Nat} {s q:Qb} {v:AV} (hP:W7 B0 B1) (hid:B0.length<=id) (hb:B1[id]? =some [.gp id 0,v])
  (hv: (s=[]/\v= .gs 0 1 0 0)\/∃ib,ib≠id/\B0.length<=ib/\v= .gb 5 ib s.length/\s≠[]/\B1[ib]? =some (Ze s)) (hl:s.length+q.length<=140737488355328):
  ∃v' B2,WS 5 v (q.length,Ze q) B1=some (v',B2)/\(v'= .gs 0 1 0 0\/∃ib n,v'= .gb 5 ib n)/\B2[id]? =some [.gp id 0,v]/\BD B0 (B2.set id [.gp id 0,v']) id (s ++ q):=by
 have hidl:=Uk hb;by_cases hq:q=[]
 ·subst hq;refine⟨v,B1,?_,?_,hb,?_⟩
  ·refine Cv v B1 ?_;rcases hv with⟨_,h⟩ | ⟨ib,_,_,h,h2,_⟩
   ·exact .inl h
   ·exact .inr ⟨ib,s.length,h,WY.2 h2,by omega⟩
  ·rcases hv with⟨_,rfl⟩ | ⟨ib,_,_,rfl,_⟩
   ·exact .inl rfl
   ·exact .inr ⟨_,_,rfl⟩
  ·rw[Qa0 hb,Ya];refine⟨hP,hid,?_⟩;rcases hv with⟨h1,rfl⟩ | ⟨ib,h1,h2,rfl,h3,h4⟩
   ·exact .inl ⟨h1,.inr hb⟩
   ·exact .inr ⟨ib,h1,h2,hb,h3,h4⟩
 ·rcases hv with⟨rfl,rfl⟩ | ⟨ib,h1,h2,rfl,h3,h4⟩
  ·refine⟨_,_,Al q hq B1 (by simpa using hl),.inr ⟨_,_,rfl⟩,by rw[ZO hidl];exact hb,?_⟩;have hlen:B0.length<=B1.length:=by obtain⟨M,rfl⟩:=hP;simp
   refine⟨(hP.app _).set hid _,hid,.inr ⟨B1.length,by omega,hlen,?_,by simpa using hq,?_⟩⟩
   ·rw[VN (by simp;omega)];rfl
   ·rw[WX (by omega)];exact Wq
  ·refine⟨_,_,Cu h3 hq h4 hl,.inr ⟨_,_,rfl⟩,?_,?_⟩
   ·rw[ZO (by simpa using hidl),WX h1];exact hb
   ·have hlen:B0.length<=B1.length:=by obtain⟨M,rfl⟩:=hP;simp
    refine⟨((hP.set h2 _).app _).set hid _,hid,.inr ⟨B1.length,by omega,hlen,?_,by simp[h3],?_⟩⟩
    ·rw[VN (by simp;omega)]
    ·rw[WX (by omega)];have e:B1.length=(B1.set ib []).length:=by simp
     rw[e,Wq]
def Qv:=@List.getElem?_cons_succ
def TE {B0 B:Qd} {id:Nat} {s:Qb} (h:BD B0 B id s) (q:Qb) (hl:s.length+q.length<=140737488355328):
  ∃B',call tb 659 [.gt 48 id,.str q] B=some (.tup [.int .i64 q.length,.err true],B')/\BD B0 B' id (s ++ q):=by
 obtain⟨v,B1,c1,hP,hBl,hb,hv⟩:=Qbr h;obtain⟨v',B2,a1,a2,a5,a6⟩:=JS hP h.2.1 hb hv (q:=q) hl;refine⟨B2.set id [.gp id 0,v'],?_,a6⟩;have hvs:v.strip=v:=by rcases hv with⟨_,rfl⟩ | ⟨ib,_,_,rfl,_⟩ <;> rfl
 have hvo:v.one=true:=by rcases hv with⟨_,rfl⟩ | ⟨ib,_,_,rfl,_⟩ <;> rfl
 have hvk:v.ok=true:=by rcases hv with⟨_,rfl⟩ | ⟨ib,_,_,rfl,_⟩ <;> rfl
 rw[zcc 659 rfl rfl];rcases a2 with rfl | ⟨ib,n,rfl⟩ <;> simp[-getElem?_pos,Qr,Qv,f659C,c1,hb,hvs,hvo,hvk,a1,a5]
def Qch {B0 B:Qd} {id:Nat} {s:Qb} (h:BD B0 B id s) (c:UInt8) (hl:s.length+1<=140737488355328):
  ∃B',call tb 735 [.gt 48 id,.int .u8 c.toNat] B=some (.err true,B')/\BD B0 B' id (s ++ [c]):=by
 obtain⟨v,B1,c1,hP,hBl,hb,hv⟩:=Qbr h;obtain⟨v',B2,a1,a2,a5,a6⟩:=JS hP h.2.1 hb hv (q:=[c]) (by simpa using hl);refine⟨B2.set id [.gp id 0,v'],?_,a6⟩;have hvs:v.strip=v:=by rcases hv with⟨_,rfl⟩ | ⟨ib,_,_,rfl,_⟩ <;> rfl
 have hvo:v.one=true:=by rcases hv with⟨_,rfl⟩ | ⟨ib,_,_,rfl,_⟩ <;> rfl
 have hvk:v.ok=true:=by rcases hv with⟨_,rfl⟩ | ⟨ib,_,_,rfl,_⟩ <;> rfl
 have a1':WS 5 v (1,[.int .u8 c.toNat]) B1=some (v',B2):=a1;rw[zcc 735 rfl rfl];rcases a2 with rfl | ⟨ib,n,rfl⟩ <;> simp[-getElem?_pos,Qr,Qv,f735C,c1,hb,hvs,hvo,hvk,WF,a1',a5]
def Ga {B0 B:Qd} {id:Nat} {s:Qb} (h:BD B0 B id s): ∃B',call tb 661 [.gt 48 id] B=some (.str s,B')/\W7 B0 B':=by
 obtain⟨hP,hid,h⟩:=h;rcases h with⟨rfl,h⟩ | ⟨ib,h1,h2,h3,h4,h5⟩
 ·refine⟨B,?_,hP⟩;obtain⟨w,hw⟩: ∃w,B[id]? =some [w,.gs 0 1 0 0]:=by rcases h with h | h <;> exact⟨_,h⟩
  rw[zcc 661 rfl rfl];simp[-getElem?_pos,Qr,Qv,f661C,hw,Hp,Oc]
 ·refine⟨B.set ib [],?_,hP.set h2 _⟩;have hpos:0 < s.length:=WY.2 h4;have hle:s.length<=(Ze s).length:=by rw[Wt];exact Za _
  have hch:=JV s;have hso:=SD s;rw[<- hch]at hso;generalize Ze s=C at *;rw[zcc 661 rfl rfl];simp[-getElem?_pos,Qr,Qv,f661C,h3,Hp,Oc,hpos,h5,hle,hso,VM]
def Qcc {B0 B:Qd} {id:Nat} {s:Qb} (h:BD B0 B id s):call tb 662 [.gt 48 id] B=some (.int .i64 s.length,B):=by
 obtain⟨hP,hid,h⟩:=h;rcases h with⟨rfl,h⟩ | ⟨ib,h1,h2,h3,h4,h5⟩
 ·obtain⟨w,hw⟩: ∃w,B[id]? =some [w,.gs 0 1 0 0]:=by rcases h with h | h <;> exact⟨_,h⟩
  rw[zcc 662 rfl rfl];simp[-getElem?_pos,Qr,Qv,f662C,hw]
 ·rw[zcc 662 rfl rfl];simp[-getElem?_pos,Qr,Qv,f662C,h3]
def WG:X3:=[[97,110,121],[97,103,101,110,116],[110,111,110,99,101],[107,101,121],[100,97,116,97],[116,97,103]]
def wrd (s:Int):Qb:=(WG[s.toNat]?).getD []
mutual
def txT:Tm->List UInt8
 | .mk k n s l=>if k=1 then(if s=0 then 63:: n else 63:: (n ++ 58:: wrd s))else if k=2 then n ++ 58:: wrd s else n ++ 40:: (txL l ++ [41])
def txL:List Tm->List UInt8
 | []=>[]
 | t:: l=>txT t ++ txM l
def txM:List Tm->List UInt8
 | []=>[]
 | t:: l=>44:: 32:: (txT t ++ txM l)
end
def GV: ∀a b:Qp,txM (a ++ b)=txM a ++ txM b
 | [],b=>rfl
 | x:: a,b=>by simp[txM,GV a b]
def QdR (x:Tm) (a b:Qp):txL (x:: a ++ b)=txL (x:: a)++ txM b:=by simp[txL,GV]
def Sx {s:Int} (h0:0<=s) (h1:s<=5):s=0\/s=1\/s=2\/s=3\/s=4\/s=5:=by omega
def TN {s:Int} (h0:0<=s) (h1:s<=5): (wrd s).length<=5:=by
 rcases Sx h0 h1 with rfl | rfl | rfl | rfl | rfl | rfl <;> decide
def JX (s:Int) (bs:Qd) (h0:0<=s) (h1:s<=5):call tb 63 [.int .i64 s] bs=some (.str (wrd s),bs):=by
 rw[zcc 63 rfl rfl];rcases Sx h0 h1 with rfl | rfl | rfl | rfl | rfl | rfl <;> simp[f63C,wrd,WG]
def UP {k:Int} {n:Qb} {s:Int} {l:Qp} (h:Yh (.mk k n s l)=0):Vq (.mk k n s l)=0/\Xd l=0:=by
 simp only[Yh]at h;split at h
 ·rename_i hne;exact absurd h hne
 ·rename_i hne;exact⟨by simpa using hne,h⟩
def Xz: ∀{l:Qp} {x:Tm},Xd l=0->x∈l->Yh x=0
 | t:: l,x,h,hx=>by
  simp only[Xd]at h;split at h
  ·rename_i hne;exact absurd h hne
  ·rename_i hne;rcases Yd.1 hx with rfl | hx
   ·simpa using hne
   ·exact Xz h hx
def Wz {k:Int} {n:Qb} {s:Int} {l:Qp} (h:Vq (.mk k n s l)=0):
  Q4 n=true/\((k=1/\0<=s/\s<=5/\l=[])\/(k=2/\0<=s/\s<=5/\l=[])\/(k=3/\s=0/\l.length<=8)):=by
 have hn:Q4 n=true:=by
  rcases VL (Q4 n)with c | c
  ·exact c
  ·exfalso;unfold Vq at h;simp only[Vo,Vp,Wh,Xr,c,QF]at h
   repeat' split at h
   all_goals omega
 refine⟨hn,?_⟩;unfold Vq at h;simp only[Vo,Vp,Wh,Xr,hn]at h;by_cases hk:k=1\/k=2
 ·rw[Qh hk]at h;by_cases hs: (s < 0\/5 < s)\/0 < l.length
  ·rw[Qh hs]at h;omega
  ·have hl:l=[]:=VK (by omega);rcases hk with hk | hk
   ·exact .inl ⟨hk,by omega,by omega,hl⟩
   ·exact .inr (.inl ⟨hk,by omega,by omega,hl⟩)
 ·rw[Qe hk]at h;by_cases hk3:k=3
  ·rw[Qh hk3]at h;by_cases hs:s=0
   ·by_cases h8:8 < l.length
    ·simp[hs,h8]at h
    ·exact .inr (.inr ⟨hk3,hs,by omega⟩)
   ·simp[hs]at h
  ·simp[hk3]at h
def Qi8 (k:Int) (n:Qb) (s:Int) (l:Qp): (Tm.mk k n s l).nodes=QK l+1:=by
 have:=UQ (.mk k n s l);simp only[Xr]at this;omega
mutual
theorem MG: ∀t:Tm,Yh t=0->(txT t).length+2<=33*t.nodes
 | .mk k n s l,h=>by
  obtain⟨h1,h2⟩:=UP h;obtain⟨hn,hc⟩:=Wz h1;have hl:=VF hn;have hN:=Qi8 k n s l;rcases hc with⟨rfl,h3,h4,rfl⟩ | ⟨rfl,h3,h4,rfl⟩ | ⟨rfl,_,_⟩
  ·have hw:=TN h3 h4;simp only[txT,QF];simp only[QK]at hN;split <;> simp only[QO,Zf] <;> omega
  ·have hw:=TN h3 h4;simp only[QK]at hN;simp[txT];omega
  ·have h5:=QdS l h2;simp[txT];omega
theorem QdS: ∀l:List Tm,Xd l=0->(txL l).length<=33*QK l
 | [],_=>by simp[txL]
 | t:: l,h=>by
  have ht:=MG t (Xz h (by simp));have hm:=GW l (by
   simp only[Xd]at h;split at h
   ·rename_i hne;exact absurd h hne
   ·exact h)
  simp[txL,QK];omega
theorem GW: ∀l:List Tm,Xd l=0->(txM l).length<=33*QK l
 | [],_=>by simp[txM]
 | t:: l,h=>by
  have ht:=MG t (Xz h (by simp));have hm:=GW l (by
   simp only[Xd]at h;split at h
   ·rename_i hne;exact absurd h hne
   ·exact h)
  simp[txM,QK];omega
end
def Ob (pre:Qp) (x:Tm) (post:Qp):txL (pre ++ x:: post)=txL pre ++ ((if pre=[]then []else [44,32])++ (txT x ++ txM post)):=by
 cases pre with
 | nil=>simp[txL]
 | cons y pre=>rw[QdR];simp[txM]
def Hm (pre:Qp) (x:Tm):txL (pre ++ [x])=txL pre ++ ((if pre=[]then []else [44,32])++ txT x):=by
 rw[Ob];simp[txM]
def Cp (k:Int) (n:Qb) (s:Int) (ks:Qp) (bs:Qd) (hb:n.length+ (txL ks).length < 1000000000) (hk8:ks.length < 1000)
  (ih: ∀x∈ks,∀bs,call tb 62 [.agg (Ql x)] bs=some (.str (txT x),bs)):
  ∀(post pre:Qp) (ρ:Qq),ks=pre ++ post->ρ 1= .bx (Ql (.mk k n s ks))->ρ 4= .int .i64 pre.length->ρ 3= .str (n ++ 40:: txL pre)->
  R tb (.loop f62l0) ρ bs (Q1 1 (ZE tb f62r0 (Zn f62 bs)))=some (.str (n ++ 40:: (txL ks ++ [41])),bs):=by
 intro post
 induction post with
 | nil=>
  intro pre ρ hk h1 h4 h3;rw[Qo f62l0.eq_1];simp at hk;subst hk;have e1:n.length+ ((txL ks).length+1)+1<=9223372036854775807:=by omega
  simp[h1,h4,h3,Ql,f62r0,e1]
 | cons x post IH=>
  intro pre ρ hk h1 h4 h3;obtain⟨hg,hw,hlt,hx⟩:=Ue hk (by omega);have hh:=ih x hx bs;have hL:=Xb (fun l=>(txL l).length) hk;simp only[Ob,Zf]at hL;rw[Qo f62l0.eq_1];cases pre with
  | nil=>
   simp only[txL,QF,QX]at hL;have e1:n.length+1+ (txT x).length<=9223372036854775807:=by omega
   simp only[txL]at h3;simp only[QX]at hg hw hlt h4;have hlt': (0:Int) < (ks.length:Int):=by omega
   have hg':ks[0]? =some x:=hg;have hw1:IntKind.i64.wrap 1=1:=by decide
   simp[h1,h4,h3,Ql,hg',hlt',hh,e1,hw1];rw[IH [x]] <;> simp[h1,hk,Ql,txL,txM]
  | cons y pre=>
   have hne: ¬(y:: pre=[]):=by simp
   rw[Qe hne]at hL;simp only[QO,QX]at hL;generalize hP:y:: pre=P at *;have hpos: (0:Int) < (P.length:Int):=by rw[<- hP];simp only[QO];omega
   have hpos':0 < P.length:=by omega
   have e1:n.length+ ((txL P).length+1)+2<=9223372036854775807:=by omega
   have e2:n.length+ ((txL P).length+2+1)+ (txT x).length<=9223372036854775807:=by omega
   simp[h1,h4,h3,Ql,hg,hw,hlt,hh,hpos,hpos',e1,e2];rw[IH (P ++ [x])] <;> simp[h1,hk,Ql,Hm,hne]
def QgX: ∀(t:Tm) (bs:Qd),Yh t=0->(txT t).length < 1000000000->call tb 62 [.agg (Ql t)] bs=some (.str (txT t),bs):=by
 refine Xg ?_;intro k n s ks ih bs he hb;obtain⟨h1,h2⟩:=UP he;obtain⟨hn,hc⟩:=Wz h1;have hl:=VF hn;rw[zcc 62 rfl rfl];rcases hc with⟨rfl,h3,h4,rfl⟩ | ⟨rfl,h3,h4,rfl⟩ | ⟨rfl,rfl,h8⟩
 ·have hw:=TN h3 h4;have c:=JX s bs h3 h4;have e1:1+n.length<=9223372036854775807:=by omega
  have e0:n.length+1<=9223372036854775807:=by omega
  have e2:n.length+1+1<=9223372036854775807:=by omega
  have e3:n.length+1+1+ (wrd s).length<=9223372036854775807:=by omega
  by_cases hs:s=0
  ·simp[f62C,Ql,hs,e0,e1,txT]
  ·simp[f62C,Ql,hs,e0,e1,e2,e3,c,txT]
 ·have hw:=TN h3 h4;have c:=JX s bs h3 h4;have e0:n.length+1<=9223372036854775807:=by omega
  have e3:n.length+1+ (wrd s).length<=9223372036854775807:=by omega
  simp[f62C,Ql,e0,e3,c,txT]
 ·have hb':n.length+ (txL ks).length < 1000000000:=by
   simp[txT]at hb;omega
  have hL:=Cp 3 n 0 ks bs hb' (by omega) (fun x hx bs=>ih x hx bs (Xz h2 hx) (by
   obtain⟨pre,post,hp⟩:=List.append_of_mem hx;have h5:=Xb (fun l=>(txL l).length) hp;simp only[Ob,Zf]at h5;omega)) ks []
  have e0:n.length+1<=9223372036854775807:=by omega
  simp only[Ql]at hL;simp[f62C,Ql,e0];rw[hL] <;> simp[txL,txT]
def Vw {t:Tm} (h:QZ t=0):Yh t=0/\t.nodes<=400/\t.depth<=40:=by
 unfold QZ at h;by_cases he:Yh t=0
 ·rw[Qe (by simpa using he)]at h;by_cases hc:400 < t.nodes\/40 < t.depth
  ·rw[Qh hc]at h;omega
  ·exact⟨he,by omega,by omega⟩
 ·rw[Qh he]at h;exact absurd h he
def PX {t:Tm} (h:QZ t=0): (txT t).length<=13200:=by
 obtain⟨h1,h2,_⟩:=Vw h;have:=MG t h1;omega
def Ui (t:Tm):Qb:=if QZ t=0 then txT t else []
def QgW (t:Tm) (bs:Qd) (hm:t.mass < big):call tb 53 [.agg (Ql t)] bs=some (.tup [.str (Ui t),.int .i64 (QZ t)],bs):=by
 have h1:=Pk t bs hm;rw[zcc 53 rfl rfl];by_cases hv:QZ t=0
 ·have h2:=QgX t bs (Vw hv).1 (by have:=PX hv;omega);simp[f53C,h1,hv,h2,Ui]
 ·simp[f53C,h1,hv,Ui]
def GT: (AV.sl false 1 [[.str [97,110,121]],[.str [97,103,101,110,116]],[.str [110,111,110,99,101]],[.str [107,101,121]],[.str [100,97,116,97]],[.str [116,97,103]]]).noOwn=true:=by rfl
def EB {B0:Qd} {id:Nat} (k:Int) (n:Qb) (s:Int) (ks:Qp) (w:Qb) (hb:w.length+n.length+ (txL ks).length+1 < 1000000000) (hk8:ks.length < 1000)
  (ih: ∀x∈ks,∀(B:Qd) (w:Qb),BD B0 B id w->w.length+ (txT x).length < 1000000000->∃B',call tb 658 [.gt 48 id,.agg (Ql x)] B=some (.tup [],B')/\BD B0 B' id (w ++ txT x)) (Bf:Qd):
  ∀(post pre:Qp) (B:Qd) (ρ:Qq),ks=pre ++ post->BD B0 B id (w ++ (n ++ 40:: txL pre))->ρ 0= .gt 48 id->ρ 45= .sl false 4 (Qz ks)->ρ 46= .int .i64 ks.length->ρ 47= .int .i64 pre.length->
  ∃B',R tb (.loop f658l0) ρ B (Q1 1 (ZE tb f658r0 (Zn f658 Bf)))=some (.tup [],B')/\BD B0 B' id (w ++ (n ++ 40:: (txL ks ++ [41]))):=by
 intro post
 induction post with
 | nil=>
  intro pre B ρ hk hB h0 h45 h46 h47;simp at hk;subst hk;obtain⟨B',c1,c2⟩:=Qch hB 41 (by simp;omega);refine⟨B',?_,by simpa using c2⟩;rw[Qo f658l0.eq_1];have c1':call tb 735 [.gt 48 id,.int .u8 41] B=some (.err true,B'):=c1;simp[h0,h45,h46,h47,f658r0,c1']
 | cons x post IH=>
  intro pre B ρ hk hB h0 h45 h46 h47;obtain⟨hg,hw,hlt,hx⟩:=Ue hk (by omega);have hL:=Xb (fun l=>(txL l).length) hk;simp only[Ob,Zf]at hL;cases pre with
  | nil=>
   simp only[QF,QX]at hL;obtain⟨B',c1,c2⟩:=ih x hx B _ hB (by simp[txL]at hL ⊢;omega);simp only[QX]at hg hw hlt h47;have hg':ks[0]? =some x:=hg;have hlt':0 < ks.length:=by omega
   have hw1:IntKind.i64.wrap 1=1:=by decide
   rw[Qo f658l0.eq_1];simp[-getElem?_pos,Qr,Qv,h0,h45,h46,h47,hg',hlt',hw1,c1];refine IH [x] B' _ (by simp[hk]) (by simpa[txL,txM]using c2) ?_ ?_ ?_ ?_ <;> simp[h0,h45,h46]
  | cons y pre=>
   have hne: ¬(y:: pre=[]):=by simp
   rw[Qe hne]at hL;simp only[QO,QX]at hL;generalize hP:y:: pre=P at *;have hpos:0 < P.length:=by rw[<- hP];simp
   obtain⟨B1,d1,d2⟩:=TE hB [44,32] (by simp;omega);obtain⟨B',c1,c2⟩:=ih x hx B1 _ d2 (by simp;omega);have hlt':P.length < ks.length:=by omega
   rw[Qo f658l0.eq_1];simp[-getElem?_pos,Qr,Qv,h0,h45,h46,h47,hg,hw,hlt',hpos,d1,c1];refine IH (P ++ [x]) B' _ (by simp[hk]) (by simpa[Hm,hne]using c2) ?_ ?_ ?_ ?_ <;> simp[h0,h45,h46]
def Qcb {B0:Qd} {id:Nat}: ∀(t:Tm) (B:Qd) (w:Qb),Yh t=0->BD B0 B id w->w.length+ (txT t).length < 1000000000->
  ∃B',call tb 658 [.gt 48 id,.agg (Ql t)] B=some (.tup [],B')/\BD B0 B' id (w ++ txT t):=by
 refine Xg ?_;intro k n s ks ih B w he hB hb;obtain⟨h1,h2⟩:=UP he;obtain⟨hn,hc⟩:=Wz h1;have hl:=VF hn;rcases hc with⟨rfl,h3,h4,rfl⟩ | ⟨rfl,h3,h4,rfl⟩ | ⟨rfl,rfl,h8⟩
 ·have hw:=TN h3 h4;have e1:1+n.length<=9223372036854775807:=by omega
  obtain⟨B1,c1,c2⟩:=TE hB (63:: n) (by simp;omega);by_cases hs:s=0
  ·refine⟨B1,?_,by simpa[txT,hs]using c2⟩;rw[zcc 658 rfl rfl];simp[f658C,Ql,hs,e1,c1]
  ·have e3:1+ (wrd s).length<=9223372036854775807:=by omega
   obtain⟨B2,d1,d2⟩:=TE c2 (58:: wrd s) (by simp[txT,hs]at hb ⊢;omega);refine⟨B2,?_,by simpa[txT,hs]using d2⟩;rw[zcc 658 rfl rfl];rcases Sx h3 h4 with rfl | rfl | rfl | rfl | rfl | rfl <;> simp[f658C,Ql,e1,c1,wrd,WG,SE,GT]at hs d1 ⊢ <;> simp[d1]
 ·have hw:=TN h3 h4;obtain⟨B2,d1,d2⟩:=TE hB (n ++ 58:: wrd s) (by simp[txT]at hb ⊢;omega);have e0:n.length+1<=9223372036854775807:=by omega
  have e3: ∀j:Nat,j<=5->n.length+1+j<=9223372036854775807:=fun j hj=>by omega
  refine⟨B2,?_,by simpa[txT]using d2⟩;rw[zcc 658 rfl rfl];rcases Sx h3 h4 with rfl | rfl | rfl | rfl | rfl | rfl <;> simp[f658C,Ql,e0,e3,wrd,WG,SE,GT]at d1 ⊢ <;> simp[d1]
 ·have hb':w.length+n.length+ (txL ks).length+1 < 1000000000:=by simp[txT]at hb;omega
  obtain⟨B1,c1,c2⟩:=TE hB (n ++ [40]) (by simp;omega);have e0:n.length+1<=9223372036854775807:=by omega
  obtain⟨B2,d1,d2⟩: ∃B',call tb 658 [.gt 48 id,.agg (Ql (.mk 3 n 0 ks))] B=some (.tup [],B')/\BD B0 B' id (w ++ (n ++ 40:: (txL ks ++ [41]))):=by
   rw[zcc 658 rfl rfl];simp[f658C,Ql,e0,c1];refine EB 3 n 0 ks w hb' (by omega) (fun x hx B w hB hh=>ih x hx B w (Xz h2 hx) hB hh) B ks [] B1 _ rfl (by simpa[txL]using c2) ?_ ?_ ?_ ?_ <;> try simp
  exact⟨B2,d1,by simpa[txT]using d2⟩
def Qca (t:Tm) (B:Qd) (hm:t.mass < big):call tb 657 [.agg (Ql t)] B=some (.tup [.str (Ui t),.int .i64 (QZ t)],B):=by
 have h1:=Nw t B hm;rw[zcc 657 rfl rfl];by_cases hv:QZ t=0
 ·have hB:BD B (B ++ [[.nlp,.gs 0 1 0 0]]) B.length []:=⟨⟨_,rfl⟩,Za _,.inl ⟨rfl,.inl (by simp)⟩⟩;obtain⟨B1,c1,c2⟩:=Qcb t _ [] (Vw hv).1 hB (by have:=PX hv;simp;omega);obtain⟨B2,d1,M,rfl⟩:=Ga c2;simp at d1;simp[f657C,h1,hv,c1,d1,Ui]
 ·simp[f657C,h1,hv,Ui]
def dg8 {n:Nat} (h:n < 10):IntKind.u8.wrap (48+ (n:Int))=48+ (n:Int)/\Ux [[.int .u8 (48+ (n:Int))]]=some [(48+n).toUInt8]:=by
 refine⟨B9 (by omega),?_⟩;have h2:=SD [(48+n).toUInt8];have h3: ((48+n).toUInt8.toNat:Int)=48+ (n:Int):=by
  have: (48+n).toUInt8.toNat=48+n:=by
   show(48+n) % 256=48+n;omega
  omega
 simp only[Ze,ZP,Y5,h3]at h2;exact h2
def Gd: ∀(m n:Nat) (bs:Qd),n < m->n < 1000000000000000000->call tb 720 [.int .i64 n] bs=some (.str (Yt n),bs):=by
 intro m
 induction m with
 | zero=>intro n bs h;omega
 | succ m ih=>
  intro n bs h hb;rw[zcc 720 rfl rfl];by_cases hn:n < 10
  ·have hn': (n:Int) < 10:=by omega
   have hw:IntKind.i64.wrap (48+ (n:Int))=48+ (n:Int):=Q2 (by omega) (by omega);obtain⟨h1,h2⟩:=dg8 hn;rw[Ug hn];simp only[Nat.toUInt8_eq]at h2 ⊢;simp[f720C,hn',hw,h1,h2]
  ·have hn': ¬(n:Int) < 10:=by omega
   have c:=ih (n / 10) bs (by omega) (by omega);have hl:=Ty 18 (n / 10) (by omega);have e1: (Yt (n / 10)).length+1<=9223372036854775807:=by omega
   have hq:IntKind.i64.wrap ((n:Int) / 10)=(n:Int) / 10:=Q2 (by omega) (by omega);have hr:IntKind.i64.wrap ((n:Int) % 10)=(n:Int) % 10:=Q2 (by omega) (by omega);have hw:IntKind.i64.wrap (48+ (n:Int) % 10)=48+ (n:Int) % 10:=Q2 (by omega) (by omega);obtain⟨h1,h2⟩:=dg8 (n:=n % 10) (by omega);have h3: ((n % 10:Nat):Int)=(n:Int) % 10:=by omega
   have h4: ((n / 10:Nat):Int)=(n:Int) / 10:=by omega
   rw[h3]at h1 h2;rw[h4]at c;rw[Tx hn];generalize Yt (n / 10)=D at *;generalize hd: (48+n % 10).toUInt8=d at *;have hz': (n:Int).tmod 10=(n:Int) % 10:=Int.tmod_eq_emod_of_nonneg (by omega);generalize hz: (n:Int) % 10=z at *;simp[f720C,hn',hq,hr,hw,h1,h2,c,hz',e1]
def Mg (n:Int) (bs:Qd) (h0: -1000000000000000000 < n) (h1:n < 1000000000000000000):call tb 719 [.int .i64 n] bs=some (.str (dec n),bs):=by
 rw[zcc 719 rfl rfl];by_cases hn:n < 0
 ·have c:=Gd (n.natAbs+1) n.natAbs bs (by omega) (by omega);have ha: (n.natAbs:Int)= -n:=by omega
  rw[ha]at c;have hw:IntKind.i64.wrap (-n)= -n:=Q2 (by omega) (by omega);have hl:=Ty 18 n.natAbs (by omega);have e1:1+ (Yt n.natAbs).length<=9223372036854775807:=by omega
  unfold dec;rw[Qh hn];generalize Yt n.natAbs=D at *;simp[f719C,hn,hw,c,e1]
 ·have c:=Gd (n.natAbs+1) n.natAbs bs (by omega) (by omega);have ha: (n.natAbs:Int)=n:=by omega
  rw[ha]at c;unfold dec;rw[Qe hn];generalize Yt n.natAbs=D at *;simp[f719C,hn,c]
def I18 (x:Int):Prop:= -1000000000000000000 < x/\x < 1000000000000000000
def XT {x:Int} (h:I18 x): (dec x).length<=20:=by
 have h1:=Ty 18 x.natAbs (by unfold I18 at h;omega);unfold dec;split
 ·simp;omega
 ·omega
def JW {x:Int} (h:I18 x) (bs:Qd):call tb 18 [.int .i64 x] bs=some (.str (dec x),bs):=by
 have h1: -9223372036854775808<=x/\x<=9223372036854775807:=by unfold I18 at h;omega
 rw[Wu tb_18];simp[ZG,NJ,h1]
def ZN (c:QH) (f:Nat):Nat->QH->Qb
 | _,[]=>[]
 | i,x:: r=>32:: (dec x ++ ((if f<=i then 94:: dec (c.getD (i - f) 0)else [])++ ZN c f (i+1) r))
def Oz (c:QH) (f:Nat): ∀(a b:QH) (i:Nat),ZN c f i (a ++ b)=ZN c f i a ++ ZN c f (i+a.length) b
 | [],b,i=>by simp[ZN]
 | x:: a,b,i=>by
  simp only[X9,ZN,Oz c f a b (i+1),QO];rw[show i+1+a.length=i+ (a.length+1) by omega];simp
def Rv {c:QH} (h: ∀x∈c,I18 x) (i:Nat):I18 (c.getD i 0):=by
 rw[WV];cases hi:c[i]? with
 | none=>exact⟨by decide,by decide⟩
 | some y=>exact h y (WW hi)
def UE {c:QH} (hc: ∀x∈c,I18 x) (f:Nat): ∀(a:QH) (i:Nat),(∀x∈a,I18 x)->(ZN c f i a).length<=42*a.length
 | [],i,_=>by simp[ZN]
 | x:: a,i,h=>by
  have h1:=XT (h x (by simp));have h2:=XT (Rv hc (i - f));have h3:=UE hc f a (i+1) (fun y hy=>h y (by simp[hy]));simp only[ZN,QO,Zf];split <;> simp only[QO,QX] <;> omega
structure Ow (d:Ded):Prop where
 ca:d.c.length<=d.a.length
 al:d.a.length < 1000000
 a: ∀x∈d.a,I18 x
 c: ∀x∈d.c,I18 x
 n:I18 d.n
 t:d.t.mass < big
def YQ (d:Ded):Qb:=Zx d.r ++ ((if d.r=1 then 32:: dec d.n else [])++ ZN d.c (d.a.length - d.c.length) 0 d.a)
def VP (d:Ded):Qb:=YQ d ++ (58:: 32:: (Ui d.t ++ [10]))
def Lc (d:Ded) (h:Ow d) (bs:Qd) (P T:Qb) (hP:P.length < 1000000) (hT:T.length < 1000000):
  ∀(post pre:QH) (ρ:Qq),d.a=pre ++ post->ρ 1= .bx (Zi d)->ρ 4= .str T->ρ 8= .str (P ++ ZN d.c (d.a.length - d.c.length) 0 pre)->ρ 9= .int .i64 ((d.a.length - d.c.length:Nat):Int)->
   ρ 46= .sl false 1 (ZD d.a)->ρ 47= .int .i64 d.a.length->ρ 48= .int .i64 pre.length->
  R tb (.loop f656l0) ρ bs (Q1 0 (ZE tb f656r0 (Zn f656 bs)))=
   some (.tup [.str (P ++ ZN d.c (d.a.length - d.c.length) 0 d.a ++ (58:: 32:: (T ++ [10]))),.int .i64 0],bs):=by
 intro post;have hal:=h.al;have hca:=h.ca;generalize hf:d.a.length - d.c.length=f at *
 induction post with
 | nil=>
  intro pre ρ hk h1 h4 h8 h9 h46 h47 h48;rw[Qo f656l0.eq_1];simp at hk;have hl:=UE h.c f pre 0 (by rw[<- hk];exact h.a);have hpl:pre.length < 1000000:=by rw[<- hk];exact hal
  rw[hk]at h47 ⊢;generalize ZN d.c f 0 pre=A at *;have e1:P.length+A.length+2<=9223372036854775807:=by omega
  have e2:P.length+ (A.length+2)+T.length<=9223372036854775807:=by omega
  have e3:P.length+ (A.length+ (T.length+2))+1<=9223372036854775807:=by omega
  have e4:P.length+ (A.length+ (2+T.length))+1<=9223372036854775807:=by omega
  simp[h1,h4,h8,h9,h46,h47,h48,f656r0,e1,e2,e3,e4]
 | cons x post IH=>
  intro pre ρ hk h1 h4 h8 h9 h46 h47 h48;obtain⟨hg,hw,hlt,hx⟩:=Ue hk (by omega);have hal2:d.a.length=pre.length+ (post.length+1):=by rw[hk];simp
  have cx:=JW (h.a x hx) bs;have hl:=UE h.c f pre 0 (fun y hy=>h.a y (by rw[hk];simp[hy]));have hdx:=XT (h.a x hx);have hsn:=Oz d.c f pre [x] 0;simp only[ZN,QP,Ya]at hsn;have hpl:pre.length < 1000000:=by omega
  have hlt':pre.length < d.a.length:=by omega
  have e1: (dec x).length+1<=9223372036854775807:=by omega
  have e1':1+ (dec x).length<=9223372036854775807:=by omega
  by_cases hc:f<=pre.length
  ·have hc': (f:Int)<=(pre.length:Int):=by omega
   have hci:pre.length - f < d.c.length:=by omega
   have hgc:d.c[pre.length - f]? =some (d.c.getD (pre.length - f) 0):=by rw[WV,Zr hci];rfl
   have hy:=Rv h.c (pre.length - f);rw[Qh hc]at hsn;generalize d.c.getD (pre.length - f) 0=y at *;have cy:=JW hy bs;have hdy:=XT hy;have hw2:IntKind.i64.wrap ((pre.length:Int) - (f:Int))=((pre.length - f:Nat):Int):=by rw[Q2 (by omega) (by omega)];omega
   have hgt: ((pre.length - f:Nat):Int).toNat=pre.length - f:=by omega
   generalize hA:ZN d.c f 0 pre=A at *;have e2:P.length+A.length+ ((dec x).length+1)<=9223372036854775807:=by omega
   have e3:P.length+ (A.length+ ((dec x).length+1))+ ((dec y).length+1)<=9223372036854775807:=by omega
   have e4:1+ (dec y).length<=9223372036854775807:=by omega
   rw[Qo f656l0.eq_1];generalize hj:pre.length - f=j at *;simp[-getElem?_pos,Qr,Qv,Zu,h1,h4,h8,h9,h46,h47,h48,hg,hw,hlt',cx,e1,e1',e2,hc,hw2,hgc,cy,e3,e4];rw[IH (pre ++ [x])] <;> simp[h1,h4,h9,h46,h47,hk,hsn,Zu]
  ·have hc': ¬(f:Int)<=(pre.length:Int):=by omega
   rw[Qe hc]at hsn;generalize hA:ZN d.c f 0 pre=A at *;have e2:P.length+A.length+ ((dec x).length+1)<=9223372036854775807:=by omega
   rw[Qo f656l0.eq_1];simp[-getElem?_pos,Qr,Qv,Zu,h1,h4,h8,h9,h46,h47,h48,hg,hw,hlt',cx,e1,e1',e2,hc];rw[IH (pre ++ [x])] <;> simp[h1,h4,h9,h46,h47,hk,hsn,Zu]
def PY (r:Int): (Zx r).length<=8:=by
 unfold Zx;split
 ·cases h:TB[r.toNat]? with
  | none=>decide
  | some p=>
   have h1: (TB.all fun p=>decide (p.1.length<=8))=true:=by decide
   have h2:=YF.1 h1 p (WW h);simpa using h2
 ·decide
def OI (t:Tm): (Ui t).length<=13200:=by
 unfold Ui;split
 ·rename_i h;exact PX h
 ·simp
def Qb9 (d:Ded) (h:Ow d) (bs:Qd):call tb 656 [.agg (Zi d)] bs=some (if QZ d.t=0 then .tup [.str (VP d),.int .i64 0]else .tup [.str [],.int .i64 (QZ d.t)],bs):=by
 have c1:=Qca d.t bs h.t;have c2:=Md d.r bs;have hca:=h.ca;have hal:=h.al;have hwl:=PY d.r;have hdl:=XT h.n;have hfl:=OI d.t;rw[zcc 656 rfl rfl];by_cases hv:QZ d.t=0
 ·rw[Qh hv];have hsub: ((d.a.length - d.c.length:Nat):Int)=(d.a.length:Int) - (d.c.length:Int):=by omega
  have hw:IntKind.i64.wrap ((d.a.length:Int) - (d.c.length:Int))=(d.a.length:Int) - (d.c.length:Int):=Q2 (by omega) (by omega);have e1:1+ (dec d.n).length<=9223372036854775807:=by omega
  have e2: (Zx d.r).length+ ((dec d.n).length+1)<=9223372036854775807:=by omega
  have cn:=JW h.n bs;unfold VP YQ;by_cases hr:d.r=1
  ·rw[Qh hr];have hL:=Lc d h bs (Zx d.r ++ (32:: dec d.n)) (Ui d.t) (by simp;omega) (by omega) d.a [];rw[hsub]at hL;rw[hr]at c2 e2 hL ⊢;simp[f656C,c1,c2,hv,hr,hw,cn,e1,e2];rw[hL] <;> simp[ZN]
  ·rw[Qe hr];have hL:=Lc d h bs (Zx d.r) (Ui d.t) (by omega) (by omega) d.a [];rw[hsub]at hL;simp[f656C,c1,c2,hv,hr,hw];rw[hL] <;> simp[ZN]
 ·rw[Qe hv];simp[f656C,c1,hv]
def NT (d:Ded) (h:Ow d) (bs:Qd) (P:Qb) (hP:P.length < 1000000):
  ∀(post pre:QH) (ρ:Qq),d.a=pre ++ post->ρ 1= .bx (Zi d)->ρ 4= .str (P ++ ZN d.c (d.a.length - d.c.length) 0 pre)->ρ 6= .int .i64 ((d.a.length - d.c.length:Nat):Int)->ρ 7= .int .i64 pre.length->
  R tb (.loop f718l0) ρ bs (Q1 0 (ZE tb f718r0 (Zn f718 bs)))=
   some (.tup [.str (P ++ ZN d.c (d.a.length - d.c.length) 0 d.a ++ (58:: 32:: (Ui d.t ++ [10]))),.int .i64 (QZ d.t)],bs):=by
 intro post;have hal:=h.al;have hca:=h.ca;have c53:=QgW d.t bs h.t;have hT:=OI d.t;generalize hf:d.a.length - d.c.length=f at *;generalize Ui d.t=T at *;generalize QZ d.t=V at *
 induction post with
 | nil=>
  intro pre ρ hk h1 h4 h6 h7;rw[Qo f718l0.eq_1];simp at hk;have hl:=UE h.c f pre 0 (by rw[<- hk];exact h.a);have hpl:pre.length < 1000000:=by rw[<- hk];exact hal
  rw[hk];have hlen: (pre.length:Int)=(d.a.length:Int):=by rw[hk]
  generalize ZN d.c f 0 pre=A at *;have e1:P.length+A.length+2<=9223372036854775807:=by omega
  have e2:P.length+ (A.length+2)+T.length<=9223372036854775807:=by omega
  have e3:P.length+ (A.length+ (T.length+2))+1<=9223372036854775807:=by omega
  have e4:P.length+ (A.length+ (2+T.length))+1<=9223372036854775807:=by omega
  simp[h1,h4,h6,h7,hk,c53,f718r0,e1,e2,e3,e4]
 | cons x post IH=>
  intro pre ρ hk h1 h4 h6 h7;obtain⟨hg,hw,hlt,hx⟩:=Ue hk (by omega);have hal2:d.a.length=pre.length+ (post.length+1):=by rw[hk];simp
  have cx:=Mg x bs (h.a x hx).1 (h.a x hx).2;have hl:=UE h.c f pre 0 (fun y hy=>h.a y (by rw[hk];simp[hy]));have hdx:=XT (h.a x hx);have hsn:=Oz d.c f pre [x] 0;simp only[ZN,QP,Ya]at hsn;have hpl:pre.length < 1000000:=by omega
  have hlt':pre.length < d.a.length:=by omega
  by_cases hc:f<=pre.length
  ·have hci:pre.length - f < d.c.length:=by omega
   have hgc:d.c[pre.length - f]? =some (d.c.getD (pre.length - f) 0):=by rw[WV,Zr hci];rfl
   have hy:=Rv h.c (pre.length - f);rw[Qh hc]at hsn;generalize d.c.getD (pre.length - f) 0=y at *;have cy:=Mg y bs hy.1 hy.2;have hdy:=XT hy;have hw2:IntKind.i64.wrap ((pre.length:Int) - (f:Int))=((pre.length - f:Nat):Int):=by rw[Q2 (by omega) (by omega)];omega
   generalize hA:ZN d.c f 0 pre=A at *;have e1:P.length+A.length+1<=9223372036854775807:=by omega
   have e2:P.length+ (A.length+1)+ (dec x).length<=9223372036854775807:=by omega
   have e3:P.length+ (A.length+ ((dec x).length+1))+1<=9223372036854775807:=by omega
   have e4:P.length+ (A.length+ ((dec x).length+1+1))+ (dec y).length<=9223372036854775807:=by omega
   rw[Qo f718l0.eq_1];generalize hj:pre.length - f=j at *;simp[-getElem?_pos,Qr,Qv,Zu,h1,h4,h6,h7,hg,hw,hlt',cx,e1,e2,hc,hw2,hgc,cy,e3,e4];rw[IH (pre ++ [x])] <;> simp[h1,h6,hk,hsn,Zu]
  ·rw[Qe hc]at hsn;generalize hA:ZN d.c f 0 pre=A at *;have e1:P.length+A.length+1<=9223372036854775807:=by omega
   have e2:P.length+ (A.length+1)+ (dec x).length<=9223372036854775807:=by omega
   rw[Qo f718l0.eq_1];simp[-getElem?_pos,Qr,Qv,Zu,h1,h4,h6,h7,hg,hw,hlt',cx,e1,e2,hc];rw[IH (pre ++ [x])] <;> simp[h1,h6,hk,hsn,Zu]
def Qce (d:Ded) (h:Ow d) (bs:Qd):call tb 718 [.agg (Zi d)] bs=some (.tup [.str (VP d),.int .i64 (QZ d.t)],bs):=by
 have c2:=Me d.r bs;have hca:=h.ca;have hal:=h.al;have hwl:=PY d.r;have hdl:=XT h.n;have cn:=Mg d.n bs h.n.1 h.n.2;rw[zcc 718 rfl rfl];have hsub: ((d.a.length - d.c.length:Nat):Int)=(d.a.length:Int) - (d.c.length:Int):=by omega
 have hw:IntKind.i64.wrap ((d.a.length:Int) - (d.c.length:Int))=(d.a.length:Int) - (d.c.length:Int):=Q2 (by omega) (by omega);have e1: (Zx d.r).length+1<=9223372036854775807:=by omega
 have e2: (Zx d.r).length+1+ (dec d.n).length<=9223372036854775807:=by omega
 unfold VP YQ;by_cases hr:d.r=1
 ·rw[Qh hr];have hL:=NT d h bs (Zx d.r ++ (32:: dec d.n)) (by simp;omega) d.a [];rw[hsub]at hL;rw[hr]at c2 e1 e2 hL ⊢;simp[f718C,c2,hr,hw,cn,e1,e2];rw[hL] <;> simp[ZN]
 ·rw[Qe hr];have hL:=NT d h bs (Zx d.r) (by omega) d.a [];rw[hsub]at hL;simp[f718C,c2,hr,hw];rw[hL] <;> simp[ZN]
def Qbv {d:Ded} {i:Int} (h:Wc d i=0):rOk d.r=true/\f6B d=false/\d.a.any (WB i)=false/\fNB d=false/\d.c.any XB=false:=by
 unfold Wc at h;rcases VL (rOk d.r)with h1 | h1 <;> rcases VL (f6B d)with h2 | h2 <;> rcases VL (d.a.any (WB i))with h3 | h3 <;>
  rcases VL (fNB d)with h4 | h4 <;> rcases VL (d.c.any XB)with h5 | h5 <;> simp only[h1,h2,h3,h4,h5]at h <;> first | exact⟨h1,h2,h3,h4,h5⟩ | (simp at h)
def JG:=@Bool.not_eq_false'
def O4:=@List.any_eq_false
def Ni:=@Bool.not_eq_true
def Rz {d:Ded} {i:Int} (h:Wc d i=0) (hi:i<=1000000) (ha:d.a.length < 1000000) (ht:d.t.mass < big):Ow d:=by
 obtain⟨h1,h2,h3,h4,h5⟩:=Qbv h;refine⟨?_,ha,fun x hx=> ?_,fun x hx=> ?_,?_,ht⟩
 ·have h6: (d.c.length:Int)=W2 d:=by
   simp only[f6B,Ud,JG,Qm]at h2;exact h2.2
  unfold W2 at h6;split at h6
  ·omega
  ·split at h6 <;> omega
 ·have h6:=O4.1 h3 x hx;simp only[WB,Ni,Ud,Wr]at h6;unfold I18;omega
 ·have h6:=O4.1 h5 x hx;simp only[XB,Ni,Ud,Wr]at h6;unfold I18;omega
 ·simp only[fNB,Ud,Wr]at h4;unfold I18;omega
def Lb {d:Ded} (h:Ow d): (VP d).length<=43000000:=by
 have h1:=UE h.c (d.a.length - d.c.length) d.a 0 h.a;have h2:=PY d.r;have h3:=XT h.n;have h4:=OI d.t;have h5:=h.al;simp only[VP,YQ,Zf,QO,QX];split <;> simp only[QO,QX] <;> omega
def FmD (l:QS):Prop:=∀d∈l,d.a.length < 1000000/\d.c.length < 1000000/\d.t.mass < big
def lnE (d:Ded) (i:Int):Int:=if Wc d i=0 then QZ d.t else Wc d i
def fmE:Int->QS->Int
 | _,[]=>0
 | i,d:: l=>if lnE d i=0 then fmE (i+1) l else lnE d i
def fmS:QS->Qb
 | []=>[]
 | d:: l=>VP d ++ fmS l
def Mp: ∀a b:QS,fmS (a ++ b)=fmS a ++ fmS b
 | [],b=>rfl
 | x:: a,b=>by simp[fmS,Mp a b]
def Zk (l:QS):Qb×Int:=
 if 400 < l.length then([],3)else if fmE 0 l≠0 then([],fmE 0 l)else if 65536 < (fmS l).length then([],3)else(fmS l,0)
def fmR (o:QS) (i:Int) (post:QS):Qb×Int:=if fmE i post≠0 then([],fmE i post)else if 65536 < (fmS (o ++ post)).length then([],3)else(fmS (o ++ post),0)
def Bo (l:QS) (o:Bool) (hl:l.length<=400) (hF:FmD l) (bs:Qd):
  ∀(post pre:QS) (ρ:Qq),l=pre ++ post->(fmS pre).length<=pre.length*43000000->ρ 0= .sl o 8 (Zh l)->ρ 4= .str (fmS pre)->ρ 5= .int .i64 pre.length->
  R tb (.loop f717l0) ρ bs (Q1 0 (ZE tb f717r0 (Zn f717 bs)))=
   some (.tup [.str (fmR pre pre.length post).1,.int .i64 (fmR pre pre.length post).2],bs):=by
 intro post
 induction post with
 | nil=>
  intro pre ρ hk hb h0 h4 h5;rw[Qo f717l0.eq_1];simp at hk;subst hk;unfold fmR;simp only[Ya,fmE];generalize fmS l=S at *;by_cases hc:65536 < S.length
  ·have hc': (65536:Int) < (S.length:Int):=by omega
   simp[h0,h4,h5,f717r0,hc,hc']
  ·have hc': ¬(65536:Int) < (S.length:Int):=by omega
   simp[h0,h4,h5,f717r0,hc,hc']
 | cons d post IH=>
  intro pre ρ hk hb h0 h4 h5;obtain⟨hg,hw,hlt,hx⟩:=Ue hk (by omega);obtain⟨f1,f2,f3⟩:=hF d hx;have c1:=QbX d pre.length bs f1 f2;have hlt':pre.length < l.length:=by omega
  rw[Qo f717l0.eq_1];by_cases hf:Wc d pre.length=0
  ·have hok:=Rz hf (by omega) f1 f3;have c2:=Qce d hok bs;have hll:=Lb hok;have e1: (fmS pre).length+ (VP d).length<=9223372036854775807:=by omega
   by_cases hv:QZ d.t=0
   ·have hR:fmR pre pre.length (d:: post)=fmR (pre ++ [d]) ((pre ++ [d]).length:Nat) post:=by
     unfold fmR;simp[fmE,lnE,hf,hv]
    rw[hR];simp[-getElem?_pos,Qr,Qv,h0,h4,h5,hg,hw,hlt',c1,hf,c2,hv,e1];rw[IH (pre ++ [d])] <;> simp[h0,hk,Mp,fmS];omega
   ·have hR:fmR pre pre.length (d:: post)=([],QZ d.t):=by
     unfold fmR;simp[fmE,lnE,hf,hv]
    rw[hR];simp[-getElem?_pos,Qr,Qv,h0,h4,h5,hg,hw,hlt',c1,hf,c2,hv]
  ·have hR:fmR pre pre.length (d:: post)=([],Wc d pre.length):=by
    unfold fmR;simp[fmE,lnE,hf]
   rw[hR];simp[-getElem?_pos,Qr,Qv,h0,h4,h5,hg,hw,hlt',c1,hf]
def Gc (l:QS) (o:Bool) (hF:FmD l) (hl:l.length < 1000000000) (bs:Qd):call tb 717 [.sl o 8 (Zh l)] bs=some (.tup [.str (Zk l).1,.int .i64 (Zk l).2],bs):=by
 rw[zcc 717 rfl rfl];unfold Zk;by_cases h4:400 < l.length
 ·have h4': (400:Int) < (l.length:Int):=by omega
  simp[f717C,h4,h4']
 ·have h4': ¬(400:Int) < (l.length:Int):=by omega
  rw[Qe h4];have hL:=Bo l false (by omega) hF bs l [];simp only[fmR,Wb]at hL;simp[f717C,h4,h4'];rw[hL] <;> simp[fmS]
def AY (l:QS) (o:Bool) (hl:l.length<=400) (hF:FmD l) (B0:Qd) (id:Nat):
  ∀(post pre:QS) (B:Qd) (ρ:Qq),l=pre ++ post->BD B0 B id (fmS pre)->(fmS pre).length<=pre.length*43000000->ρ 4= .gt 48 id->ρ 13= .sl o 8 (Zh l)->ρ 14= .int .i64 l.length->ρ 15= .int .i64 pre.length->
  R tb (.loop f655l0) ρ B (Q1 0 (ZE tb f655r0 (Zn f655 B0)))=
   some (.tup [.str (fmR pre pre.length post).1,.int .i64 (fmR pre pre.length post).2],B0):=by
 intro post
 induction post with
 | nil=>
  intro pre B ρ hk hB hb h4 h13 h14 h15;rw[Qo f655l0.eq_1];simp at hk;subst hk;unfold fmR;simp only[Ya,fmE];have c1:=Qcc hB;obtain⟨B2,c2,M,rfl⟩:=Ga hB;obtain⟨M1,rfl⟩:=hB.1;generalize fmS l=S at *;by_cases hc:65536 < S.length
  ·have hc': (65536:Int) < (S.length:Int):=by omega
   simp[h4,h13,h14,h15,f655r0,hc,hc',c1]
  ·have hc': ¬(65536:Int) < (S.length:Int):=by omega
   simp[h4,h13,h14,h15,f655r0,hc,hc',c1,c2]
 | cons d post IH=>
  intro pre B ρ hk hB hb h4 h13 h14 h15;obtain⟨hg,hw,hlt,hx⟩:=Ue hk (by omega);obtain⟨f1,f2,f3⟩:=hF d hx;have c1:=fun B=>QbT d pre.length B f1 f2;have hlt':pre.length < l.length:=by omega
  obtain⟨M1,hM1⟩:=hB.1;rw[Qo f655l0.eq_1];by_cases hf:Wc d pre.length=0
  ·have hok:=Rz hf (by omega) f1 f3;have c2:=fun B=>Qb9 d hok B;have hll:=Lb hok;by_cases hv:QZ d.t=0
   ·have hR:fmR pre pre.length (d:: post)=fmR (pre ++ [d]) ((pre ++ [d]).length:Nat) post:=by
     unfold fmR;simp[fmE,lnE,hf,hv]
    rw[hR];obtain⟨B2,d1,d2⟩:=TE hB (VP d) (by omega);simp[-getElem?_pos,Qr,Qv,h4,h13,h14,h15,hg,hw,hlt',c1,hf,c2,hv,d1];rw[IH (pre ++ [d]) B2] <;> simp[h4,h13,h14,hk,Mp,fmS,d2];omega
   ·have hR:fmR pre pre.length (d:: post)=([],QZ d.t):=by
     unfold fmR;simp[fmE,lnE,hf,hv]
    rw[hR];subst hM1;simp[-getElem?_pos,Qr,Qv,h4,h13,h14,h15,hg,hw,hlt',c1,hf,c2,hv]
  ·have hR:fmR pre pre.length (d:: post)=([],Wc d pre.length):=by
    unfold fmR;simp[fmE,lnE,hf]
   rw[hR];subst hM1;simp[-getElem?_pos,Qr,Qv,h4,h13,h14,h15,hg,hw,hlt',c1,hf]
def PZ (l:QS) (o:Bool) (hF:FmD l) (hl:l.length < 1000000000) (B:Qd):call tb 655 [.sl o 8 (Zh l)] B=some (.tup [.str (Zk l).1,.int .i64 (Zk l).2],B):=by
 rw[zcc 655 rfl rfl];unfold Zk;by_cases h4:400 < l.length
 ·have h4': (400:Int) < (l.length:Int):=by omega
  simp[f655C,h4,h4']
 ·have h4': ¬(400:Int) < (l.length:Int):=by omega
  rw[Qe h4];have hB:BD B (B ++ [[.nlp,.gs 0 1 0 0]]) B.length []:=⟨⟨_,rfl⟩,Za _,.inl ⟨rfl,.inl (by simp)⟩⟩;have hL:=AY l false (by omega) hF B B.length l [];simp only[fmR,Wb]at hL;simp[f655C,h4,h4'];rw[hL] <;> simp[fmS,hB]
def st (B:Qd) (id:Nat) (s:Qb) (a:Nat):Qd:=B.set id [.str s,.int .i64 a]
def Vg {B:Qd} {id:Nat} (h:id < B.length) (s:Qb) (a:Nat): (st B id s a)[id]? =some [.str s,.int .i64 a]:=by
 unfold st;rw[YE,Qh rfl,Qh h]
def N0 (B:Qd) (id:Nat) (s:Qb) (a:Nat) (x:Qf): (st B id s a).set id x=B.set id x:=by
 unfold st;rw[Nr]
def MB (B:Qd) (id:Nat) (s:Qb) (a:Nat):B.set id [.str s,.int .i64 (a:Int)]=st B id s a:=rfl
@[simp] def QkV (B:Qd) (id:Nat) (s:Qb) (a:Nat): (st B id s a).length=B.length:=by simp[st]
@[simp] def QkU (B:Qd) (id:Nat) (s:Qb) (a:Nat):List.take B.length (st B id s a)=st B id s a:=VM (by simp)
def X0 (B:Qd) (id:Nat) (s:Qb) (a b:Nat):Yc (st B id s a) (st B id s b)=true:=by
 have:st B id s b=(st B id s a).set id [.str s,.int .i64 b]:=by rw[N0];rfl
 rw[this];exact Fu _ _ _ rfl
def pfx (p r:Qb):Bool:=decide (p.length<=r.length) && r.take p.length == p
def Qb6 (s p:Qb) (bs:Qd) (hs:s.length < 4611686018427387904) (hp:p.length < 4611686018427387904):call tb 652 [.str s,.str p] bs=some (.bool (pfx p s),bs):=by
 have c:=Mh s p bs hs hp;rw[zcc 652 rfl rfl];unfold pfx;generalize (decide (p.length<=s.length) && s.take p.length == p)=b at *;simp[f652C,c]
def SR {B:Qd} {id:Nat} (hid:id < B.length) (s:Qb) (a:Nat) (p:Qb) (ha:a<=s.length) (hs:s.length < 1000000) (hp:p.length < 1000000):
  call tb 651 [.gp id 0,.str p] (st B id s a)=some (.bool (pfx p (s.drop a)),st B id s (if pfx p (s.drop a)then a+p.length else a)):=by
 have hg:=Vg hid s a;have c:=Qb6 (s.drop a) p (st B id s a) (by rw[YN];omega) (by omega);have hle: (a:Int)<=(s.length:Int):=by omega
 have hw:IntKind.i64.wrap ((a:Int)+ (p.length:Int))=((a+p.length:Nat):Int):=by rw[Q2 (by omega) (by omega)];omega
 generalize hq:a+p.length=q at *;rw[zcc 651 rfl rfl];cases hc:pfx p (s.drop a)
 ·rw[hc]at c;simp[-getElem?_pos,Qr,Qv,f651C,hg,c,hle,ha,X0]
 ·rw[hc]at c;simp[-getElem?_pos,Qr,Qv,f651C,hg,c,hle,ha,hw,N0,MB,X0]
def nmW (r:Qb):Qb:=r.takeWhile ZW
def C4 {B:Qd} {id:Nat} (hid:id < B.length) (s:Qb) (hs:s.length < 1000000) (fr:Nat):
  ∀(r pre:Qb) (ρ:Qq),s=pre ++ r->fr<=pre.length->ρ 0= .gp id 0->ρ 4= .int .i64 fr->
  R tb (.loop f653l0) ρ (st B id s pre.length) (Q1 0 (ZE tb f653r0 (Zn f653 (st B id s fr))))=
   some (.tup [.str ((s.take (pre.length+ (nmW r).length)).drop fr),.bool (Q4 ((s.take (pre.length+ (nmW r).length)).drop fr))],st B id s (pre.length+ (nmW r).length)):=by
 have fin: ∀(e:Nat) (ρ:Qq),fr<=e->e<=s.length->ρ 0= .gp id 0->ρ 4= .int .i64 fr->
   R tb f653r0 ρ (st B id s e) (Zn f653 (st B id s fr))=some (.tup [.str ((s.take e).drop fr),.bool (Q4 ((s.take e).drop fr))],st B id s e):=by
  intro e ρ h1 h2 h0 h4;have hg:=Vg hid s e;have c:=Of ((s.take e).drop fr) (st B id s e) (by simp;omega);simp[-getElem?_pos,Qr,Qv,f653r0,h0,h4,hg,h1,h2,c,X0]
 intro r
 induction r with
 | nil=>
  intro pre ρ hk hf h0 h4;simp at hk;subst hk;have hg:=Vg hid s s.length;have hF:=fin s.length;rw[Qo f653l0.eq_1];simp[-getElem?_pos,Qr,Qv,h0,h4,hg,nmW];rw[hF] <;> simp[h0,h4,hf]
 | cons c r IH=>
  intro pre ρ hk hf h0 h4;have hl:s.length=pre.length+ (r.length+1):=by rw[hk];simp
  have hg:=Vg hid s pre.length;have hgc:s[pre.length]? =some c:=ZM hk;have hlt:pre.length < s.length:=by omega
  have cp:=Tg c (st B id s pre.length);have hw:IntKind.i64.wrap ((pre.length:Int)+1)=((pre.length+1:Nat):Int):=by rw[Q2 (by omega) (by omega)];omega
  rw[Qo f653l0.eq_1];rcases VL (ZW c)with hp | hp
  ·rw[hp]at cp;have hn:nmW (c:: r)=c:: nmW r:=by simp[nmW,hp]
   have hI:=IH (pre ++ [c]);simp only[Zf,QO,QX,QP]at hI;rw[hn,QO,show pre.length+ ((nmW r).length+1)=pre.length+1+ (nmW r).length by omega];generalize hq:pre.length+1=q at *;simp[-getElem?_pos,Qr,Qv,h0,h4,hg,hgc,hlt,cp,hw,N0,MB];rw[hI] <;> first | omega | simp[h0,h4,hk]
  ·rw[hp]at cp;have hn:nmW (c:: r)=[]:=by simp[nmW,hp]
   have hF:=fin pre.length;rw[hn];simp only[QX,WH];simp[-getElem?_pos,Qr,Qv,h0,h4,hg,hgc,hlt,cp];rw[hF] <;> first | omega | simp[h0,h4,hf]
def RA (r:Qb):r.take (nmW r).length=nmW r:=by
 unfold nmW
 induction r with
 | nil=>rfl
 | cons c r ih=>
  rcases VL (ZW c)with h | h
  ·simp[h,ih]
  ·simp[h]
def S2 (r:Qb): (nmW r).length<=r.length:=by
 have:=Xb List.length (RA r);rw[YO]at this;omega
def Qb7 {B:Qd} {id:Nat} (hid:id < B.length) (s:Qb) (hs:s.length < 1000000) (a:Nat) (ha:a<=s.length):
  call tb 653 [.gp id 0] (st B id s a)=some (.tup [.str (nmW (s.drop a)),.bool (Q4 (nmW (s.drop a)))],st B id s (a+ (nmW (s.drop a)).length)):=by
 have hg:=Vg hid s a;have hL:=C4 hid s hs a (s.drop a) (s.take a);have hla: (s.take a).length=a:=by rw[YO];omega
 have hdt: (s.take (a+ (nmW (s.drop a)).length)).drop a=nmW (s.drop a):=by
  rw[Nk,U9,RA]
 rw[hla]at hL;rw[hdt]at hL;rw[zcc 653 rfl rfl];simp[-getElem?_pos,Qr,Qv,f653C,hg];rw[hL] <;> simp
def BX {B:Qd} {id:Nat} (hid:id < B.length) (s:Qb) (hs:s.length < 1000000) (fr f0:Nat) (ls:Int):
  ∀(r pre:Qb) (ρ:Qq),s=pre ++ r->fr<=pre.length->ρ 0= .gp id 0->ρ 1= .int .i64 ls->ρ 6= .int .i64 fr->
  R tb (.loop f654l0) ρ (st B id s pre.length) (Q1 0 (ZE tb f654r0 (Zn f654 (st B id s f0))))=
   some (.tup [.int .i64 (ixF WG ((s.take (pre.length+ (nmW r).length)).drop fr)),.bool (decide (ls<=ixF WG ((s.take (pre.length+ (nmW r).length)).drop fr)))],st B id s (pre.length+ (nmW r).length)):=by
 have fin: ∀(e:Nat) (ρ:Qq),fr<=e->e<=s.length->ρ 0= .gp id 0->ρ 1= .int .i64 ls->ρ 6= .int .i64 fr->
   R tb f654r0 ρ (st B id s e) (Zn f654 (st B id s f0))=some (.tup [.int .i64 (ixF WG ((s.take e).drop fr)),.bool (decide (ls<=ixF WG ((s.take e).drop fr)))],st B id s e):=by
  intro e ρ h1 h2 h0 h1' h6;have hg:=Vg hid s e;have c:=As WG ((s.take e).drop fr) false (st B id s e) (by decide);have ht:SE 0= .sl false 1 (UY WG):=rfl;have ht1: (AV.sl false 1 (UY WG)).one=true:=rfl;have ht2: (AV.sl false 1 (UY WG)).noOwn=true:=rfl;generalize ixF WG ((s.take e).drop fr)=I at *;generalize UY WG=W at *;simp[-getElem?_pos,Qr,Qv,f654r0,ht,ht1,ht2,h0,h1',h6,hg,h1,h2,c,X0]
 intro r
 induction r with
 | nil=>
  intro pre ρ hk hf h0 h1 h4;simp at hk;subst hk;have hg:=Vg hid s s.length;have hF:=fin s.length;rw[Qo f654l0.eq_1];simp[-getElem?_pos,Qr,Qv,h0,h4,hg,nmW];rw[hF] <;> simp[h0,h1,h4,hf]
 | cons c r IH=>
  intro pre ρ hk hf h0 h1 h4;have hl:s.length=pre.length+ (r.length+1):=by rw[hk];simp
  have hg:=Vg hid s pre.length;have hgc:s[pre.length]? =some c:=ZM hk;have hlt:pre.length < s.length:=by omega
  have cp:=Tg c (st B id s pre.length);have hw:IntKind.i64.wrap ((pre.length:Int)+1)=((pre.length+1:Nat):Int):=by rw[Q2 (by omega) (by omega)];omega
  rw[Qo f654l0.eq_1];rcases VL (ZW c)with hp | hp
  ·rw[hp]at cp;have hn:nmW (c:: r)=c:: nmW r:=by simp[nmW,hp]
   have hI:=IH (pre ++ [c]);simp only[Zf,QO,QX,QP]at hI;rw[hn,QO,show pre.length+ ((nmW r).length+1)=pre.length+1+ (nmW r).length by omega];generalize hq:pre.length+1=q at *;simp[-getElem?_pos,Qr,Qv,h0,h4,hg,hgc,hlt,cp,hw,N0,MB];rw[hI] <;> first | omega | simp[h0,h1,h4,hk]
  ·rw[hp]at cp;have hn:nmW (c:: r)=[]:=by simp[nmW,hp]
   have hF:=fin pre.length;rw[hn];simp only[QX,WH];simp[-getElem?_pos,Qr,Qv,h0,h4,hg,hgc,hlt,cp];rw[hF] <;> first | omega | simp[h0,h1,h4,hf]
def Qb8 {B:Qd} {id:Nat} (hid:id < B.length) (s:Qb) (hs:s.length < 1000000) (a:Nat) (ha:a<=s.length) (ls:Int):
  call tb 654 [.gp id 0,.int .i64 ls] (st B id s a)=
   if pfx [58] (s.drop a)then some (.tup [.int .i64 (ixF WG (nmW (s.drop (a+1)))),.bool (decide (ls<=ixF WG (nmW (s.drop (a+1)))))],st B id s (a+1+ (nmW (s.drop (a+1))).length))
   else some (.tup [.int .i64 0,.bool false],st B id s a):=by
 have c:=SR hid s a [58] ha hs (by decide);rw[zcc 654 rfl rfl];cases hp:pfx [58] (s.drop a)
 ·rw[hp]at c;simp only[Zo,QC]at c ⊢;simp[f654C,c,X0]
 ·rw[hp]at c;simp only[QF,QO,QX,QP]at c ⊢;have ha1:a+1<=s.length:=by
   simp only[pfx,Qi,Qm,QO,QX,YN]at hp;omega
  have hg:=Vg hid s (a+1);have hL:=BX hid s hs (a+1) a ls (s.drop (a+1)) (s.take (a+1));have hla: (s.take (a+1)).length=a+1:=by rw[YO];omega
  have hdt: (s.take (a+1+ (nmW (s.drop (a+1))).length)).drop (a+1)=nmW (s.drop (a+1)):=by
   rw[Nk,U9,RA]
  rw[hla]at hL;rw[hdt]at hL;generalize a+1=q at *;simp[-getElem?_pos,Qr,Qv,f654C,c,hg];rw[hL] <;> simp
def pS (ls:Int) (r:Qb):Int×Qb×Bool:=
 if pfx [58] r then(ixF WG (nmW (r.drop 1)),(r.drop 1).drop (nmW (r.drop 1)).length,decide (ls<=ixF WG (nmW (r.drop 1))))else(0,r,false)
mutual
def pT:Nat->List UInt8->Tm×List UInt8×Bool
 | 0,r=>(.mk 0 [] 0 [],r,false)
 | k+1,r=>
  let r1:=if pfx [63] r then r.drop 1 else r
  let n:=nmW r1
  let r2:=r1.drop n.length
  if Q4 n=false then(.mk 0 [] 0 [],r2,false)
  else if pfx [63] r then(if pfx [58] r2 then(.mk 1 n (pS 1 r2).1 [],(pS 1 r2).2.1,(pS 1 r2).2.2)else(.mk 1 n 0 [],r2,true))
  else if pfx [40] r2 then pL k n [] (r2.drop 1)
  else(.mk 2 n (pS 0 r2).1 [],(pS 0 r2).2.1,(pS 0 r2).2.2)
def pL:Nat->List UInt8->List Tm->List UInt8->Tm×List UInt8×Bool
 | 0,n,l,r=>(.mk 3 n 0 l,r,false)
 | k+1,n,l,r=>
  if pfx [41] r then(.mk 3 n 0 l,r.drop 1,true)
  else if l≠[]/\pfx [44,32] r=false then(.mk 3 n 0 l,r,false)
  else
   let p:=pT k (if l=[]then r else r.drop 2)
   if p.2.2=false then(.mk 3 n 0 l,p.2.1,false)else pL k n (l ++ [p.1]) p.2.1
end
def IP {c:UInt8} {s:Qb} {a:Nat}:pfx [c] (s.drop a)=true->a+1<=s.length:=by
 intro h;simp only[pfx,Qi,Qm,QO,QX,YN]at h;omega
def Qki {c d:UInt8} {s:Qb} {a:Nat}:pfx [c,d] (s.drop a)=true->a+2<=s.length:=by
 intro h;simp only[pfx,Qi,Qm,QO,QX,YN]at h;omega
def Qar {c:UInt8} {s:Qb} {a:Nat}:pfx [c] (s.drop a)=(decide (s[a]? =some c)):=by
 have h0: (s.drop a)[0]? =s[a]? :=by rw[YM];simp
 cases h:s.drop a with
 | nil=>
  rw[h]at h0;simp[pfx,<- h0]
 | cons x r=>
  rw[h]at h0;simp only[Qr]at h0;rw[<- h0];by_cases hx:x=c
  ·simp[pfx,hx]
  ·have: (x == c)=false:=by simpa using hx
   simp[pfx,this,hx]
def Ah (s:Qb) (id:Nat) (k:Nat):Prop:=∀(B:Qd) (a:Nat),id < B.length->a<=s.length->2* (s.length - a)+1<=k->
 ∃a',call tb 650 [.gp id 0] (st B id s a)=some (.tup [.agg (Ql (pT k (s.drop a)).1),.bool (pT k (s.drop a)).2.2],st B id s a')/\(pT k (s.drop a)).2.1=s.drop a'/\a'<=s.length/\a<=a'/\((pT k (s.drop a)).2.2=true->a < a')
def G1 (s:Qb) (id:Nat) (k:Nat):Prop:=∀(B:Qd) (n:Qb) (l:Qp) (a f0:Nat) (ρ:Qq),id < B.length->a<=s.length->2* (s.length - a)+2<=k->l.length<=a->
 ρ 0= .gp id 0->ρ 2= .bx [.int .i64 0,.str [],.int .i64 0,.sl true 4 []]->ρ 9= .bx [.int .i64 3,.str n,.int .i64 0,.sl true 4 (Qz l)]->
 ∃a',R tb (.loop f650l0) ρ (st B id s a) (Q1 0 (ZE tb f650r0 (Zn f650 (st B id s f0))))=
   some (.tup [.agg (Ql (pL k n l (s.drop a)).1),.bool (pL k n l (s.drop a)).2.2],st B id s a')/\(pL k n l (s.drop a)).2.1=s.drop a'/\a'<=s.length/\a<=a'
def YW:=@Bool.true_eq_false
def Qds (s:Qb) (hs:s.length < 1000000) (id k:Nat) (hT:Ah s id k) (hL:G1 s id k):G1 s id (k+1):=by
 intro B n l a f0 ρ hid ha hk hll h0 h2 h9;have c1:=SR hid s a [41] ha hs (by decide);simp only[pL];cases hp:pfx [41] (s.drop a)
 ·rw[hp]at c1;simp only[Zo,QC]at c1 ⊢;by_cases hl0:l=[]
  ·subst hl0;obtain⟨a1,d1,d2,d3,d4,d5⟩:=hT B a hid ha (by omega);simp only[ne_eq,not_true,SQ,QC,QF];generalize pT k (s.drop a)=p at *;obtain⟨t,r,ok⟩:=p;simp only at d1 d2 d5 ⊢;cases ok
   ·simp only[QF];refine⟨a1,?_,d2,d3,d4⟩;rw[Qo f650l0.eq_1];simp[-getElem?_pos,Qr,Qv,h0,h2,h9,c1,d1,X0,Ql,Qz]
   ·have hlt:=d5 rfl;simp only[YW,QC,d2];have hI:=fun ρ=>hL B n [t] a1 f0 ρ hid d3 (by omega) (by simp;omega);rw[Qo f650l0.eq_1];simp[-getElem?_pos,Qr,Qv,h0,h2,h9,c1,d1,Qz];refine(hI _ ?_ ?_ ?_).imp fun a' h=>⟨h.1,h.2.1,h.2.2.1,by have:=h.2.2.2;omega⟩ <;> simp[h0,h2,Qz]
  ·have c2:=SR hid s a [44,32] ha hs (by decide);have hlp:0 < l.length:=WY.2 hl0;simp only[ne_eq,hl0,R9,ZB,QC];cases hq:pfx [44,32] (s.drop a)
   ·rw[hq]at c2;simp only[Zo,QC,QF]at c2 ⊢;refine⟨a,?_,rfl,ha,Za _⟩;rw[Qo f650l0.eq_1];simp[-getElem?_pos,Qr,Qv,h0,h2,h9,c1,c2,hlp,X0,Ql]
   ·rw[hq]at c2;have ha2:=Qki hq;simp only[QF,YW,QC,QO,QX,QP,Nat.reduceAdd]at c2 ⊢;obtain⟨a1,d1,d2,d3,d4,d5⟩:=hT B (a+2) hid ha2 (by omega);rw[TZ];have hcm:a+2=a+2:=rfl;generalize hpp:pT k (s.drop (a+2))=p at *;obtain⟨t,r,ok⟩:=p;simp only at d1 d2 d5 ⊢;generalize hq2:a+2=q at *;cases ok
    ·simp only[QF];refine⟨a1,?_,d2,d3,by omega⟩;rw[Qo f650l0.eq_1];simp[-getElem?_pos,Qr,Qv,h0,h2,h9,c1,c2,hlp,d1,X0,Ql]
    ·have hlt:=d5 rfl;simp only[YW,QC,d2];have hI:=fun ρ=>hL B n (l ++ [t]) a1 f0 ρ hid d3 (by omega) (by simp;omega);have e1: (l.length+1)*56<=140737488355328:=by omega
     rw[Qo f650l0.eq_1];simp[-getElem?_pos,Qr,Qv,h0,h2,h9,c1,c2,hlp,d1,e1];refine(hI _ ?_ ?_ ?_).imp fun a' h=>⟨h.1,h.2.1,h.2.2.1,by have:=h.2.2.2;omega⟩ <;> simp[h0,h2,<- Pz,Qz]
 ·rw[hp]at c1;simp only[QF,QO,QX,QP]at c1 ⊢;have ha1:=IP hp;refine⟨a+1,?_,by rw[TZ],ha1,by omega⟩;rw[Qo f650l0.eq_1];generalize a+1=q at *;simp[-getElem?_pos,Qr,Qv,h0,h2,h9,c1,f650r0,X0,Ql]
end Go.Am
