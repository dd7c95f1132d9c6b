/-
  Td2, Td3, Gt36, Gt38, Gt40, Td4, Td5, Td6, AmS, AmSort, AmSort2, AmSort3, AmSort4.
-/
import Derived.Test.YtkijgpjgngncpaaGreatDoorG23
import Derived.Test.YtkijgpjgngncpaaGreatDoorG25
import Derived.Test.YtkijgpjgngncpaaGreatDoorG15
import Derived.Test.YtkijgpjgngncpaaGreatDoorG09
import Derived.Shelf.SlSortCmp.WholeK
import Derived.Shelf.SlSortCmp.NoneTotal
import Derived.Test.YtkijgpjgngncpaaGreatDoorG16
set_option linter.all false
namespace Go.Am
set_option maxRecDepth 8000
inductive PE:Tm→Prop
 | leaf {n:List UInt8} {s:Int}:QP n=true→0≤s→s≤5→PE (.mk 2 n s [])
 | node {n:List UInt8} {a b:Tm}:n=QK∨n=ENC→PE a→PE b→PE (.mk 3 n 0 [a,b])
theorem QeE {t:Tm} (h:PE t):ZI t=0:=by
 induction h with
 | leaf h1 h2 h3=>
  simp[ZI,errL,W2,Tm.kind,Tm.sort,Tm.kids,Tm.name,h1];omega
 | @node n a b h _ _ ia ib=>
  have h1:QP n=true:=by rcases h with rfl | rfl <;> decide
  simp[ZI,errL,W2,Tm.kind,Tm.sort,Tm.kids,Tm.name,h1,ia,ib]
theorem QeD {t:Tm} (h:PE t):Z5 t=0:=by
 induction h with
 | leaf _ _ _=>simp[Z5]
 | @node n a b h _ _ ia ib=>rcases h with rfl | rfl <;> simp[Z5,chkL,Q4,Z6,QK,ENC,ia,ib]
theorem MR {t:Tm} (h:PE t):ZY t=(t,0):=by
 induction h with
 | leaf _ _ _=>simp[ZY]
 | @node n a b h _ _ ia ib=>exact Ar (Dm (n:=n) (by rcases h with rfl | rfl <;> simp) _) (by simp[normL,ia,ib])
theorem JR {t:Tm} (h:PE t): ∀y∈Q1 t,y.kind≠1∧Ug y=false∧ndN y=true:=by
 induction h with
 | leaf _ _ _=>
  intro y hy;simp only[Q1,allL,List.mem_cons,List.mem_nil_iff,or_false]at hy;subst hy;exact⟨by simp,by simp[Ug,RP,isB],by simp[ndN]⟩
 | @node n a b h _ _ ia ib=>
  intro y hy;simp only[Q1,allL,List.append_nil,List.mem_cons,List.mem_append]at hy;rcases hy with rfl | hy | hy
  ·obtain⟨h1,h2⟩:=CT (n:=n) (by rcases h with rfl | rfl <;> simp) [a,b];exact⟨h1,h2,by rcases h with rfl | rfl <;> simp[ndN,WY,QK,ENC,FST,SND,DEC,Yc,Yj,READ]⟩
  ·exact ia y hy
  ·exact ib y hy
theorem Nl {t:Tm} (h:PE t) (hn:t.nodes≤400) (hd:t.depth≤40):YY t=0:=by
 have hv:QD t=0:=by
  unfold QD;rw[if_neg (by simp[QeE h]),if_neg (by omega)]
 have ht:thV t=0:=by
  unfold thV;rw[if_neg (by simp[hv])];exact QeD h
 have hvar:Tl t=[]:=by
  unfold Tl;have: (Q1 t).filter (W0 1)=[]:=List.filter_eq_nil_iff.2 fun y hy=>by
   have:=(JR h y hy).1;simp[W0,this]
  rw[this];rfl
 have hN:XS t=(t,0):=by
  unfold XS;rw[if_neg (by simp[ht]),if_neg (by simp[MR h]),if_neg (by simp[MR h,hv]),MR h]
 have hp:Tv t=true:=by
  unfold Tv;rw[hN,HP];simp only[decide_true,Bool.true_and,Bool.and_eq_true,decide_eq_true_eq,List.all_eq_true];exact⟨Z3 t,fun y hy=>(JR h y hy).2.2⟩
 unfold YY;rw[if_neg (by simp[ht]),if_neg (by simp[hvar]),if_pos hp]
theorem Qeo {l:List Tm} (h: ∀x∈l,PE x∧x.nodes≤400∧x.depth≤40) (hl: (YD l).length≤200):FLp l:=
 ⟨fun x hx=>QfF (Nl (h x hx).1 (h x hx).2.1 (h x hx).2.2),fun x hx y hy=>(JR (h x hx).1 y hy).2.1,hl⟩
mutual
def XU (k K:Tm):Tm→Bool
 | .mk kd n s us=>decide (Qh (.mk kd n s us) k=0) || decide (Qh (.mk kd n s us) K=0) || (if n=ENC∧Qh (us.getD 1 Qs) K=0 then false else badL k K us)
def badL (k K:Tm):List Tm→Bool
 | []=>false
 | t:: ts=>XU k K t || badL k K ts
end
theorem Ky (k K:Tm):XU k K k=true∧XU k K K=true:=by
 obtain⟨a,b,c,d⟩:=k;obtain⟨a',b',c',d'⟩:=K;constructor
 ·simp[XU,Z3]
 ·simp[XU,Z3]
theorem QeF {t:Tm} (h:PE t): ∀y∈Q1 t,PE y:=by
 induction h with
 | leaf h1 h2 h3=>
  intro y hy;simp only[Q1,allL,List.mem_cons,List.mem_nil_iff,or_false]at hy;subst hy;exact .leaf h1 h2 h3
 | @node n a b h ha hb ia ib=>
  intro y hy;simp only[Q1,allL,List.append_nil,List.mem_cons,List.mem_append]at hy;rcases hy with rfl | hy | hy
  ·exact .node h ha hb
  ·exact ia y hy
  ·exact ib y hy
theorem HZ {a b:Tm} (h:a.kind≠b.kind): ¬Qh a b=0:=fun e=>h (by rw[Ze _ _ e])
theorem UJ {k K a b:Tm} {n:List UInt8} (hk:k.kind=2) (hK:K.kind=2):XU k K (.mk 3 n 0 [a,b])=if n=ENC∧Qh b K=0 then false else(XU k K a || XU k K b):=by
 have h1: ¬Qh (.mk 3 n 0 [a,b]) k=0:=HZ (by rw[hk];simp);have h2: ¬Qh (.mk 3 n 0 [a,b]) K=0:=HZ (by rw[hK];simp);simp[XU,badL,h1,h2]
theorem GA {u:List Tm} (hu:UK u) (hpe: ∀x∈u,PE x) {k K:Tm} (hk:k.kind=2) (hK:K.kind=2) (pk:Xa k=false) (pK:Xa K=false):ClS u (u.filter fun x=> !XU k K x):=by
 have hf: ∀y∈u.filter (fun x=> !XU k K x),XU k K y=false:=fun y hy=>by
  have:=(List.mem_filter.1 hy).2;simpa using this
 intro x hx h;refine List.mem_filter.2 ⟨hx,?_⟩;have goal:XU k K x=false:=by
  rcases h with h | h | h
  ·cases hpe x hx with
   | @leaf n s _ _ _=>
    have n1: ¬Qh (.mk 2 n s []) k=0:=fun e=>by rw[Ze _ _ e,pk]at h;cases h
    have n2: ¬Qh (.mk 2 n s []) K=0:=fun e=>by rw[Ze _ _ e,pK]at h;cases h
    simp[XU,badL,n1,n2]
   | node hn _ _=>
    exfalso;rcases hn with rfl | rfl <;> simp[Xa,QK,ENC,Xr,ONE]at h
  ·unfold Sc at h;simp only[Bool.and_eq_true,decide_eq_true_eq,List.all_eq_true]at h;cases hpe x hx with
   | leaf _ _ _=>exact absurd h.1.1 (by simp)
   | @node n a b hn _ _=>
    have ha:=hf a (Zo.1 (h.2 a (by simp)));have hb:=hf b (Zo.1 (h.2 b (by simp)));rw[UJ hk hK,ha,hb];simp
  ·obtain⟨t,ht,hto⟩:=List.any_eq_true.1 h;have htu:=(List.mem_filter.1 ht).1;have hbt:=hf t ht;have hxo:=(Si (hu.gd t htu)).1 hto;cases hpe t htu with
   | leaf _ _ _=>exact absurd (H2 hxo) (by simp)
   | @node n a b hn _ _=>
    rw[UJ hk hK]at hbt;rcases hn with rfl | rfl
    ·rw[if_neg (by simp[QK,ENC])]at hbt;simp only[Bool.or_eq_false_iff]at hbt;have:=H2 hxo;simp only[QX,List.mem_cons,List.mem_nil_iff,or_false]at this;rcases this with rfl | rfl
     ·exact hbt.1
     ·exact hbt.2
    ·unfold S6 at hxo;rw[if_neg (by simp[isB,QK,ENC])]at hxo;split at hxo
     ·rename_i h3;simp only[isB,ZD,ENC,Bool.or_eq_true,Bool.and_eq_true,decide_eq_true_eq]at h3;rcases h3 with h3 | ⟨h3,h4⟩
      ·simp at h3
      ·have e:WU (.mk 3 ENC 0 [a,b])=b:=by
        have h5:Vd (.mk 3 ENC 0 [a,b])=0:=of_decide_eq_true h3;unfold WU;rw[if_neg (by simp[h5]),if_pos (by simp[isB])];rfl
       have hb:=hf b (by
        have:=Zo.1 h4;rwa[show WU (Tm.mk 3 [101,110,99] 0 [a,b])=b from e]at this)
       have nb: ¬Qh b K=0:=fun e=>by
        rw[Ze _ _ e,(Ky k K).2]at hb;cases hb
       rw[if_neg (by simp[nb])]at hbt;simp only[Bool.or_eq_false_iff]at hbt;simp only[QX,List.take_succ_cons,List.take_zero,List.mem_cons,List.mem_nil_iff,or_false]at hxo;rw[hxo];exact hbt.1
     ·cases hxo
 simp[goal]
theorem QcC {g:List Tm} {k K:Tm} (hF:FLp (g ++ [k])) (hpe: ∀x∈g ++ [k],PE x) (hk:k.kind=2) (hK:K.kind=2) (pk:Xa k=false) (pK:Xa K=false) (hg: ∀x∈g,XU k K x=false):PN g k=false:=by
 have hI:PsI (YD (g ++ [k])) (Zv g):=JU;have hu:=Jr hF;have hpu: ∀x∈YD (g ++ [k]),PE x:=fun x hx=>by
  obtain⟨t,ht,hx⟩:=UW.1 hx;exact QeF (hpe t ht) x hx
 have hc:=GA hu hpu hk hK pk pK;cases c:PN g k
 ·rfl
 ·exfalso;have h1:=Zo.1 c;have h2:=HE hu hc (fun y hy=>(List.mem_filter.1 hy).1) _ (Zv g) (fun y hy=>List.mem_filter.2 ⟨hI.sub y hy,by simp[hg y (Vc.1 hy)]⟩) k h1;have:=(List.mem_filter.1 h2).2;rw[(Ky k K).1]at this;cases this
theorem QdQ {g:List Tm} {K x k y:Tm} (hF:FLp (g ++ [k])) (ht:Tm.mk 3 ENC 0 [.mk 3 QK 0 [x,.mk 3 QK 0 [k,y]],K]∈g) (hth:thV (.mk 3 ENC 0 [.mk 3 QK 0 [x,.mk 3 QK 0 [k,y]],K])=0) (hK:K∈g):PN g k=true:=by
 have hI:PsI (YD (g ++ [k])) (Zv g):=JU;have hu:=Jr hF;have hc:=IG (Kx (g ++ [k])) (f:=(YD (g ++ [k])).length+1) (s:=Zv g) (by omega) hI;have hg: ∀z∈g,z∈P4 (YD (g ++ [k])) (Zv g):=fun z hz=>EO YU (u:=YD (g ++ [k])) _ (Zv g) z (Vc.2 hz);have hin:=(JD hI).sub;change ClS _ (P4 (YD (g ++ [k])) (Zv g))at hc;unfold PN;generalize P4 (YD (g ++ [k])) (Zv g)=C at *;have hE:=hg _ ht;have hEu:=hin _ hE;have pair: ∀{p q:Tm},Tm.mk 3 QK 0 [p,q]∈C→p∈C∧q∈C:=fun {p q} h=>by
  have hh: ∀z∈[p,q],z∈C:=fun z hz=>by
   have hpu:=hin _ h;refine hc z (hu.kids _ hpu z hz) (.inr (.inr (List.any_eq_true.2 ⟨_,h,(Si (hu.gd _ hpu)).2 ?_⟩)));unfold S6;rw[if_pos (by simp[isB])];exact hz
  exact⟨hh p (by simp),hh q (by simp)⟩
 have hT:Tm.mk 3 QK 0 [x,.mk 3 QK 0 [k,y]]∈C:=by
  refine hc _ (hu.kids _ hEu _ (by simp)) (.inr (.inr (List.any_eq_true.2 ⟨_,hE,(Si (hu.gd _ hEu)).2 ?_⟩)));have h5:Vd (Tm.mk 3 ENC 0 [.mk 3 QK 0 [x,.mk 3 QK 0 [k,y]],K])=0:=by
   unfold Vd;rw[if_neg (by simp[hth]),if_pos (by simp[isB])]
  have e:WU (Tm.mk 3 ENC 0 [.mk 3 QK 0 [x,.mk 3 QK 0 [k,y]],K])=K:=by
   unfold WU;rw[if_neg (by simp[h5]),if_pos (by simp[isB])];rfl
  unfold S6;rw[if_neg (by simp[isB,QK,ENC]),if_pos (by simp[h5,e,Zo.2 (hg K hK)])];simp
 exact Zo.2 (pair (pair hT).2).1
theorem Sr (a b:Nat): ((a:Int).tmod (b:Int))=((a % b:Nat):Int):=by
 rw[Int.tmod_eq_emod_of_nonneg (by omega)];omega
theorem VE.b {m:Nat} {p:Pla} (h:VE m p) (hm:m≤80):0≤p.now∧p.now≤1000∧p.ts.length≤80∧p.ks.length≤80:=by
 have h1:=h.s.ok.nw;have h2:=h.lo;have h3:=h.hi;have h4:=h.tl;have h5:=h.kl;omega
theorem NQ (ts:List Tm) (t:Tm):encTs ts ++ [[.int .i64 t.kind,.str t.name,.int .i64 t.sort,.sl false 4 (encTs t.kids)]]=encTs (ts ++ [t]):=by
 rw[← Yg,← XC,← Qz]
theorem Qa1 (o:OpU): ∃(r:Int) (b:UInt8),((o.n:Int).tmod 3)=r∧agO o=[b]∧((r=0∧b=97)∨(r=1∧b=98)∨(r=2∧b=99)):=by
 have q3: ((o.n:Int).tmod 3)=((o.n % 3:Nat):Int):=Sr o.n 3;have:o.n % 3=0∨o.n % 3=1∨o.n % 3=2:=by omega
 unfold agO;rcases this with d | d | d <;> rw[d]at q3 ⊢
 ·exact⟨0,97,q3,rfl,.inl ⟨rfl,rfl⟩⟩
 ·exact⟨1,98,q3,rfl,.inr (.inl ⟨rfl,rfl⟩)⟩
 ·exact⟨2,99,q3,rfl,.inr (.inr ⟨rfl,rfl⟩)⟩
theorem Ey {m:Nat} {p:Pla} (o:OpU) (bs:List (List AV)) (h:VE m p) (hm:m≤80) (ho:o.ok):call F.tb 138 [.agg (WZ p),.agg (UQ o)] bs=some (.agg (WZ (Te p o)),bs):=by
 rw[Qa F.tb_138 _ _ rfl];obtain⟨b1,b2,b3,b4⟩:=h.b hm;have hcl:=h.s.cl;have hnl:p.s.name.length < 1000000:=by have:=h.s.nl;omega
 have hul:p.s.used.length < 1000000:=by have:=h.s.ok.ul;omega
 have hkl:p.s.keys.length < 1000000:=by have:=h.s.kl;omega
 have q4: ((o.k:Int).tmod 4)=((o.k % 4:Nat):Int):=Sr o.k 4;have q8: ((o.a:Int).tmod 8)=((o.a % 8:Nat):Int):=Sr o.a 8;have l8:o.a % 8 < 8:=Nat.mod_lt _ (by decide);obtain⟨r3,b,q3,hag,hr3⟩:=Qa1 o;have ht:Q5 p o=p.now+ ((o.a % 8:Nat):Int):=rfl;obtain⟨g,hg⟩: ∃g,o.a % 8=g:=⟨_,rfl⟩;rw[hg]at q8 l8 ht;have v8:IntKind.i64.wrap (g:Int)=(g:Int):=Qq (by omega) (by omega);have wt:IntKind.i64.wrap (p.now+ (g:Int))=Q5 p o:=by rw[ht];exact Qq (by omega) (by omega)
 have hk:o.k % 4=0∨o.k % 4=1∨o.k % 4=2∨o.k % 4=3:=by omega
 have hnx:Te p o=Te p o:=rfl
 conv at hnx=>rhs;unfold Te
 rw[hnx];clear hnx;generalize Q5 p o=now at *;have w0:IntKind.u8.wrap 1=1:=by decide
 have w1:IntKind.u8.wrap 2=2:=by decide
 have w2:IntKind.u8.wrap 3=3:=by decide
 have e01: ¬((0:Int)=1):=by decide
 rcases hk with c | c | c | c <;> simp only[c]at q4 ⊢ <;> simp (config:={decide:=true}) only[if_true,if_false]
 ·have hr:=Iw p.s (agO o) now bs hnl hcl h.s.kb (by simp[Ho]);have a1: (p.ts.length+1)*56≤140737488355328:=by omega
  have a2: (p.ks.length+1)*56≤140737488355328:=by omega
  have a3:p.ts.length*56≤140737488355328:=by omega
  have a4:p.ks.length*56≤140737488355328:=by omega
  rw[hag]at hr ⊢;generalize Zy p.s [b] now=v at *;have e4:=Qz v.2.1;have e5:=Qz v.2.2.1;have s1:=NQ p.ts v.2.1;have s2:=NQ p.ks v.2.2.1;unfold Qo at *;unfold WZ UQ;rcases hr3 with⟨rfl,rfl⟩ | ⟨rfl,rfl⟩ | ⟨rfl,rfl⟩ <;>
  by_cases d:v.2.2.2=0 <;>
  simp[F.f138C,q4,q8,q3,v8,wt,w0,w1,w2,hr,d,a1,a2,a3,a4,e4,e5,s1,s2,XC]
 ·unfold WZ UQ;by_cases c1:p.ts=[]
  ·simp[F.f138C,q4,q8,v8,wt,c1,encTs]
  ·have hr:=KK p.s (tkO p o) now bs hnl hul hkl h.s.kb (by have:=h.tm _ (Qdl (o:=o) c1);omega);have hl:0 < p.ts.length:=List.length_pos_iff.2 c1;have hx:o.n % p.ts.length < p.ts.length:=Nat.mod_lt _ hl;have qn: ((o.n:Int).tmod (p.ts.length:Int))=((o.n % p.ts.length:Nat):Int):=Sr _ _;have hgt: (encTs p.ts)[o.n % p.ts.length]? =some (Qb (tkO p o)):=by
    unfold tkO;rw[Wt,List.getElem?_eq_getElem hx];rfl
   have vn:IntKind.i64.wrap (o.n:Int)=(o.n:Int):=Qq (by omega) (by have:=ho.2.1;omega);have hne: ¬((p.ts.length:Int)=0):=by omega
   obtain⟨x,hxx⟩: ∃x,o.n % p.ts.length=x:=⟨_,rfl⟩;rw[hxx]at qn hgt hx;generalize Ya p.s (tkO p o) now=v at *;have e4:=Qz v.2.1;have e5:=Qz (tkO p o);rw[e5]at hr hgt;unfold Qo at *;by_cases d:v.2.2=0 <;>
   simp[F.f138C,q4,q8,v8,wt,hr,d,e4,c1,hl,hgt,qn,vn,hne]
 ·have hr:=KL p.s now bs hnl hcl h.s.kb;generalize Yb p.s now=v at *;unfold Qo at *;unfold WZ UQ;by_cases d:v.2=0 <;>
  simp[F.f138C,q4,q8,v8,wt,hr,d]
 ·have hr:=KI p.s now bs hnl hcl h.s.kb;generalize XF p.s now=v at *;unfold Qo at *;unfold WZ UQ;simp[F.f138C,q4,q8,v8,wt,hr]
def Kd (b:Bool) (p:Pla):List AV:=[.str p.s.name,.int .i64 p.s.epoch,.sl false 6 (p.s.keys.map Q8),.int .i64 p.s.next,.sl false 2 (p.s.used.map XM),.int .i64 p.s.window,.int .i64 p.s.now,.int .i64 p.now,.sl b 4 (encTs p.ts),.sl b 4 (encTs p.ks)]
theorem Il (w:Nat) (l:List OpU) (o:Bool) (bs:List (List AV)) (hl:l.length≤60) (ho: ∀x∈l,x.ok):
  ∀(post pre:List OpU) (q:Bool) (ρ:Nat→AV),l=pre ++ post→ρ 1= .sl o 3 (l.map UQ)→ρ 7= .bx (Kd q (WR w pre))→ρ 8= .int .i64 pre.length→(∃z,ρ 4= .bx z∧z.length=10)→
  R F.tb (.loop F.f137l0) ρ bs (Qi 0 (Qu F.tb F.f137r0 (Qy F.f137 bs)))=some (.agg (WZ (WR w l)),bs):=by
 intro post
 induction post with
 | nil=>
  intro pre q ρ hkk h1 h7 h8 h4;obtain⟨z,h4,hz⟩:=h4;rw[Qd F.f137l0.eq_1];simp at hkk;rw[← hkk]at h7 h8;unfold WZ Kd at *;simp[h1,h7,h8,h4,hz,F.f137r0]
 | cons x post IH=>
  intro pre q ρ hkk h1 h7 h8 h4;have h4':=h4;obtain⟨z,h4,hz⟩:=h4;have hg:=QB hkk;have hl':l.length=pre.length+ (post.length+1):=by rw[hkk];simp
  have hw1:=wr1 pre.length (by omega);have hlt: (pre.length:Int) < (l.length:Int):=by omega
  have hn:=Ey x bs (Fu w pre) (by omega) (ho x (by rw[hkk];simp));have hp:Te (WR w pre) x=WR w (pre ++ [x]):=by simp[WR,Ke,List.foldl_append]
  rw[hp]at hn;rw[Qd F.f137l0.eq_1];have e0:UQ x=[.int .u8 (x.k:Int),.int .u8 (x.n:Int),.int .u8 (x.a:Int)]:=rfl;unfold WZ Kd at *;rw[e0]at hn;simp[h1,h7,h8,h4,hz,hg,hw1,hlt,hn,e0];rw[IH (pre ++ [x]) false] <;> simp[h1,h4,hz,hkk]
theorem Iu (w:Nat) (l:List OpU) (o:Bool) (bs:List (List AV)) (hw:w < 256) (hl:l.length≤60) (ho: ∀x∈l,x.ok):call F.tb 137 [.int .u8 (w:Int),.sl o 3 (l.map UQ)] bs=some (.agg (WZ (WR w l)),bs):=by
 have h16: ((w:Int).tmod 16)=((w % 16:Nat):Int):=Sr w 16;have hb:w % 16 < 16:=Nat.mod_lt _ (by decide);have hst:Z8 w=⟨⟨QL,0,[⟨0,0,Qt QL 0⟩],0,[],1+ ((w % 16:Nat):Int),0⟩,0,[],[]⟩:=rfl;have hloop:=Il w l false bs hl ho l [] true;have hp0:WR w []=Z8 w:=rfl;rw[hp0,hst]at hloop;obtain⟨g,hg⟩: ∃g,w % 16=g:=⟨_,rfl⟩;rw[hg]at h16 hb hloop;have v8:IntKind.i64.wrap (g:Int)=(g:Int):=Qq (by omega) (by omega);have v1:IntKind.i64.wrap (1+ (g:Int))=1+ (g:Int):=Qq (by omega) (by omega);have hnew:=Ez QL (1+ (g:Int)) bs (by decide);have hv:Oa QL (1+ (g:Int))=(⟨QL,0,[⟨0,0,Qt QL 0⟩],0,[],1+ (g:Int),0⟩,0):=by
  have q1: (1:Int)≤1+ (g:Int):=by omega
  have q2:1+ (g:Int)≤1000:=by omega
  simp[Oa,P9,q1,q2]
 rw[hv]at hnew;have es:QL=[115,114,118]:=rfl;rw[Qa F.tb_137 _ _ rfl];unfold WZ Kd Qo at *;clear es;simp only[List.map_cons,List.map_nil,QL]at hnew hloop;simp[F.f137C,h16,v8,v1,hnew];rw[hloop] <;> simp[encTs]
theorem Ae {s:Srv} {ag:List UInt8} {now:Int} (h: (Zy s ag now).2.2.2=0): (Zy s ag now).1={s with now:=now,next:=s.next+1}:=by
 unfold Zy at *;split at h
 ·contradiction
 ·rw[if_neg (by assumption)];split at h
  ·simp at h
  ·rw[if_neg (by assumption)];split at h
   ·simp at h
   ·rw[if_neg (by assumption)]
theorem DX {s:Srv} {t:Tm} {now:Int} (h3: (Ya s t now).2.2=0): ∃a ky n ex,(Yo s t).1=some (a,ky,n,ex)∧(Ya s t now).1={s with used:=Va ⟨n,ex⟩ s.used,now:=now}:=by
 unfold Ya at *;split at h3
 ·contradiction
 ·rw[if_neg (by assumption)];cases hr: (Yo s t).1 with
  | none=>rw[hr]at h3;exact absurd h3 (SN.1 hr)
  | some q=>
   obtain⟨a,ky,n,ex⟩:=q;rw[hr]at h3;refine⟨a,ky,n,ex,rfl,?_⟩;simp only at h3 ⊢;split at h3
   ·simp at h3
   ·rw[if_neg (by assumption)];split at h3
    ·simp at h3
    ·rw[if_neg (by assumption)];unfold R7 at h3 ⊢;split at h3
     ·simp at h3
     ·rw[if_neg (by assumption)];split at h3
      ·simp at h3
      ·rw[if_neg (by assumption)]
theorem QcA {s:List UInt8} {n:Nat} (hs:XR s=true) (h:n < 1000000):QP (s ++ [35]++ ZN n)=true:=by
 have hd:=SJ h;have hl:s.length≤10:=by simp only[XR,Bool.and_eq_true,decide_eq_true_eq]at hs;exact hs.1.1.2
 have hn:QP s=true:=by simp only[XR,Bool.and_eq_true]at hs;exact hs.1.1.1
 rw[List.append_assoc];refine Tc hn ?_ (by simp;omega);rw[List.all_append,SC,Bool.and_true]
 decide
theorem Fr {ag s:List UInt8} {n ex ep:Nat} (ha:QP ag=true) (hs:XR s=true) (hn:n≤10000) (he:ex≤900000) (hp:ep≤10000):
  XQ (YC ag (QG s n) n ex (Qt s ep))=some ((ag,QG s n,(n:Int),(ex:Int)),Qt s ep):=by
 have h0:thV (YC ag (QG s n) n ex (Qt s ep))=0:=by
  have h1:=Ni (n:=n) (by omega);have h2:=Ni (n:=ex) (by omega);have h3:=Lw hs (n:=n) (by omega);have h3b:=QcA hs (n:=ep) (by omega);have h4:Q4 [112,97,105,114] Z6=some ⟨[112,97,105,114],2,2,1⟩:=by simp[Q4,Z6]
  have h4b:Q4 [101,110,99] Z6=some ⟨[101,110,99],2,2,1⟩:=by simp[Q4,Z6]
  have h5:QP [112,97,105,114]=true:=by decide
  have h6:QP [101,110,99]=true:=by decide
  simp at h1 h2 h3 h3b;simp[thV,QD,YC,ENC,Ui,W3,QK,QG,Y1,Qt,Wj,ZI,errL,W2,Tm.nodes,nodesL,Tm.depth,depthL,Z5,chkL,h1,h2,h3,h3b,h4,h4b,h5,h6,ha]
 have h1:isB (YC ag (QG s n) n ex (Qt s ep)) ENC=true:=XX.2 ⟨rfl,rfl⟩;have h2:Wo (Ui ag (QG s n) n ex)=[.mk 2 ag 1 [],QG s n,Y1 n,Y1 ex]:=by
  simp[Ui,W3,Wo,QG,Y1]
 have h3:WT (Y1 (n:Int))=true:=UZ.2 ⟨by rw[V9];omega,by rw[V9]⟩;have h4:WT (Y1 (ex:Int))=true:=UZ.2 ⟨by rw[V9];omega,by rw[V9]⟩;have h5: (YC ag (QG s n) n ex (Qt s ep)).kids=[Ui ag (QG s n) n ex,Qt s ep]:=rfl;unfold XQ;rw[if_pos ⟨h0,h1⟩,h5];simp only[h2];rw[if_pos ⟨⟨rfl,rfl,rfl,rfl⟩,h3,h4⟩,V9,V9];rfl
structure Qdy (nm:List UInt8) (n:Nat) (W fin:Int) (K:Tm) (s:Srv) (now:Int):Prop where
 si:Wc s
 nn:s.name=nm
 w:s.window=W
 lo:s.now≤now
 fl:fin - W≤now
 hi:now≤fin
 nx:s.next=(n:Int)+1
 un: ∀u∈s.used,u.n < n
 ul:s.used.length≤60
 kk: ∃k∈s.keys,k.key=K∧(k.e=0∨fin≤k.e)
theorem Qdy.res {nm ag:List UInt8} {n ep ex:Nat} {W:Int} {s:Srv} {now:Int} (h:Qdy nm n W ex (Qt nm ep) s now) (ha:QP ag=true) (hx:ex≤90000) (hp:ep≤10000):
  (Ya s (YC ag (QG nm n) n ex (Qt nm ep)) now).2=(QG nm n,0):=by
 have hnx:=h.si.ok.nx;have hn:=h.nx;have hnm:=h.si.ok.name;rw[h.nn]at hnm;have hq:=Fr (n:=n) (ex:=ex) (ep:=ep) ha hnm (by omega) (by omega) hp;have hv:=Od h.si.ok;have hc:Y2 s now=0:=by
  have h1:=h.lo;have h2:=h.hi;have h3:now≤100000:=by omega
  simp[Y2,hv,TM,h1,h3]
 have hr:Yo s (YC ag (QG nm n) n ex (Qt nm ep))=(some (ag,QG nm n,(n:Int),(ex:Int)),0):=by
  obtain⟨k,k1,k2,_⟩:=h.kk;unfold Yo;rw[if_neg (by simp[hv]),hq];simp only;rw[if_pos];simp only[List.any_eq_true,decide_eq_true_eq];exact⟨k,k1,ZW.2 k2⟩
 have hh: ¬VP n s.used=true:=by
  simp only[VP,List.any_eq_true,decide_eq_true_eq]
  rintro⟨u,hu,he⟩
  have:=h.un u hu;omega
 have hl: ¬s.used.length=200:=by have:=h.ul;omega
 have hi:=h.hi;unfold Ya;rw[if_neg (by simp[hc]),hr];simp only;rw[if_neg (by omega),if_neg (by omega)];unfold R7;rw[if_neg hh,if_neg hl]
def Qgk (k:Nat) (t:Tm) (ex:Nat):Prop:=∃(ag:List UInt8) (ep:Nat),QP ag=true∧ep≤10000∧ex≤90000∧1≤ex∧t=YC ag (QG QL k) k ex (Qt QL ep)
structure T6 (m:Nat) (p:Pla):Prop where
 pv:VE m p
 nm:p.s.name=QL
 nx:p.s.next=p.ts.length
 kl:p.ks.length=p.ts.length
 tk: ∀(k:Nat) (t:Tm),p.ts[k]? =some t→p.ks[k]? =some (QG QL k)∧∃ex:Nat,Qgk k t ex
theorem FT (w:Nat):T6 0 (Z8 w):=⟨Mn w,rfl,rfl,rfl,fun k t h=>by simp[Z8]at h⟩
theorem T6.keep {m m':Nat} {p q:Pla} (h:T6 m p) (hq:VE m' q) (h1:q.s.name=p.s.name) (h2:q.s.next=p.s.next) (h3:q.ts=p.ts) (h4:q.ks=p.ks):T6 m' q:=
 ⟨hq,by rw[h1];exact h.nm,by rw[h2,h3];exact h.nx,by rw[h3,h4];exact h.kl,fun k t ht=>by rw[h3]at ht;rw[h4];exact h.tk k t ht⟩
theorem I3 {s:Srv} {now:Int} (h: (Yb s now).2=0): (Yb s now).1.name=s.name∧(Yb s now).1.next=s.next:=by
 unfold Yb at *;by_cases a:Y2 s now≠0
 ·rw[if_pos a]at h;exact absurd h a
 ·rw[if_neg a]at h ⊢;by_cases b:s.keys.length=8∨s.epoch=10000
  ·rw[if_pos b]at h;simp at h
  ·rw[if_neg b];exact⟨rfl,rfl⟩
theorem IL (s:Srv) (now:Int): (XF s now).name=s.name∧(XF s now).next=s.next:=by
 unfold XF;by_cases a:Y2 s now≠0
 ·rw[if_pos a];exact⟨rfl,rfl⟩
 ·rw[if_neg a];exact⟨rfl,rfl⟩
theorem DA {m:Nat} {p:Pla} {o:OpU} (h:T6 m p) (hm:m≤60):T6 (m+1) (Te p o):=by
 have hq:=Ly (o:=o) h.pv;have hb:=h.pv.b (by omega);have hb8:o.a % 8 < 8:=Nat.mod_lt _ (by decide);have htm:p.now≤Q5 p o∧Q5 p o≤2000:=by unfold Q5;omega
 have hlo:=h.pv.lo;have hww:=h.pv.s.w;have hw1:=h.pv.s.ok.w;unfold Te at hq ⊢;by_cases c0:o.k % 4=0
 ·rw[if_pos c0]at hq ⊢;by_cases c1: (Zy p.s (agO o) (Q5 p o)).2.2.2=0
  ·rw[if_pos c1]at hq ⊢;have hs:=Ae c1;have hiss: (Zy p.s (agO o) (Q5 p o)).2.1=YC (agO o) (QG p.s.name p.s.next) p.s.next (Q5 p o+p.s.window) (Tt p.s)∧(Zy p.s (agO o) (Q5 p o)).2.2.1=QG p.s.name p.s.next:=by
    unfold Zy at c1 ⊢;split at c1
    ·contradiction
    ·rw[if_neg (by assumption)];split at c1
     ·simp at c1
     ·rw[if_neg (by assumption)];split at c1
      ·simp at c1
      ·rw[if_neg (by assumption)];exact⟨rfl,rfl⟩
   have hag:QP (agO o)=true:=by
    unfold agO;have:o.n % 3=0∨o.n % 3=1∨o.n % 3=2:=by omega
    rcases this with d | d | d <;> rw[d] <;> decide
   obtain⟨i,lk,hkk,_⟩:=h.pv.s.ok.last;obtain⟨c3,c4,c5⟩:=(Y9 p.s).1 h.pv.s.ok.ks;obtain⟨q1,q2,q3,q4⟩:=Oo c5 lk (by rw[hkk];simp);have hep:=h.pv.s.ok.ep;obtain⟨ep,hepn⟩: ∃n:Nat,lk.n=n:=⟨lk.n.toNat,by omega⟩;have hlk:Tt p.s=Qt QL ep:=by simp[Tt,hkk,q1,hepn,h.nm]
   obtain⟨ex,hex⟩: ∃n:Nat,Q5 p o+p.s.window=n:=⟨(Q5 p o+p.s.window).toNat,by omega⟩;have ht: (Zy p.s (agO o) (Q5 p o)).2.1=YC (agO o) (QG QL p.ts.length) p.ts.length ex (Qt QL ep):=by rw[hiss.1,h.nm,h.nx,hex,hlk]
   have hk2: (Zy p.s (agO o) (Q5 p o)).2.2.1=QG QL p.ts.length:=by rw[hiss.2,h.nm,h.nx]
   refine⟨hq,by simp only[hs];exact h.nm,by simp only[hs,h.nx];simp,by simp[h.kl],fun k t hkt=> ?_⟩;rw[List.getElem?_append]at hkt;split at hkt
   ·rename_i hkl;obtain⟨h1,h2⟩:=h.tk k t hkt;refine⟨?_,h2⟩;rw[List.getElem?_append_left (by rw[h.kl];exact hkl)];exact h1
   ·rename_i hkl;have hk0:k=p.ts.length:=by
     rcases Nat.eq_zero_or_pos (k - p.ts.length)with h | h
     ·omega
     ·rw[List.getElem?_eq_none (by simp;omega)]at hkt;cases hkt
    subst hk0;simp only[Nat.sub_self,List.getElem?_cons_zero,Option.some.injEq]at hkt;refine⟨?_,ex,agO o,ep,hag,by omega,by omega,by omega,by rw[← hkt];exact ht⟩;rw[← h.kl,List.getElem?_concat_length,hk2,h.kl]
  ·rw[if_neg c1]at hq ⊢;exact h.keep hq rfl rfl rfl rfl
 ·rw[if_neg c0]at hq ⊢;by_cases c1:o.k % 4=1
  ·rw[if_pos c1]at hq ⊢;by_cases c2:p.ts≠[]∧(Ya p.s (tkO p o) (Q5 p o)).2.2=0
   ·rw[if_pos c2]at hq ⊢;obtain⟨_,_,_,_,_,e⟩:=DX c2.2;exact h.keep hq (by simp only[e]) (by simp only[e]) rfl rfl
   ·rw[if_neg c2]at hq ⊢;exact h.keep hq rfl rfl rfl rfl
  ·rw[if_neg c1]at hq ⊢;by_cases c2:o.k % 4=2
   ·rw[if_pos c2]at hq ⊢;by_cases c3: (Yb p.s (Q5 p o)).2=0
    ·rw[if_pos c3]at hq ⊢;obtain⟨e1,e2⟩:=I3 c3;exact h.keep hq e1 e2 rfl rfl
    ·rw[if_neg c3]at hq ⊢;exact h.keep hq rfl rfl rfl rfl
   ·rw[if_neg c2]at hq ⊢;obtain⟨e1,e2⟩:=IL p.s (Q5 p o);exact h.keep hq e1 e2 rfl rfl
theorem Ln: ∀(l:List OpU) {m:Nat} {p:Pla},m+l.length≤60→T6 m p→T6 (m+l.length) (Ke p l)
 | [],_,_,_,h=>h
 | o:: l,m,p,hl,h=>by
  simp only[List.length_cons]at hl;have:=Ln l (by omega) (DA (o:=o) h (by omega));have e:m+1+l.length=m+ (o:: l).length:=by simp;omega
  rw[e]at this;exact this
theorem I2 (w:Nat) (l:List OpU) (hl:l.length≤60):T6 l.length (WR w l):=by
 have:=Ln l (by omega) (FT w);rwa[Nat.zero_add]at this
theorem Sd (n:Nat):dec (n:Int)=ZN n:=by
 unfold dec;rw[if_neg (by omega)];simp
theorem Ao {n:Nat} (h:n < 1000000):QP (QL ++ [35]++ ZN n)=true:=by
 rw[List.append_assoc];exact Tc (by decide) (by rw[List.all_append,SC];decide) (by have:=Um 5 n h;simp[QL];omega)
theorem QaJ {n:Nat} (h:n < 1000000):PE (Qt QL n):=by
 unfold Qt;rw[Sd];exact .leaf (Ao h) (by decide) (by decide)
theorem H5 {n:Nat} (h:n < 1000000):PE (QG QL n):=by
 unfold QG;rw[Sd];exact .leaf (Lw P9 h) (by decide) (by decide)
theorem DO {n:Nat} (h:n < 1000000):PE (Y1 n):=by
 unfold Y1;rw[Sd];exact .leaf (Ni h) (by decide) (by decide)
theorem QcR {ag:List UInt8} {i ex ep:Nat} (ha:QP ag=true) (hi:i < 1000000) (hx:ex < 1000000) (he:ep < 1000000):PE (YC ag (QG QL i) i ex (Qt QL ep)):=
 .node (.inr rfl) (.node (.inl rfl) (.leaf ha (by decide) (by decide)) (.node (.inl rfl) (H5 hi) (.node (.inl rfl) (DO hi) (DO hx)))) (QaJ he)
theorem Ou (n:Nat): (Qt QL n).name=QL ++ [35]++ ZN n:=by simp[Qt,Sd]
theorem SR (n:Nat): (QG QL n).name=QL ++ [95]++ ZN n:=by simp[QG,Sd]
theorem Ji {a b:Nat} (h:Qt QL a=Qt QL b):a=b:=by
 have:=congrArg Tm.name h;rw[Ou,Ou]at this;exact K9 (List.append_cancel_left this)
theorem Qau {a b:Nat} (h:QG QL a=QG QL b):a=b:=by
 have:=congrArg Tm.name h;rw[SR,SR]at this;exact K9 (List.append_cancel_left this)
theorem HO {a b:Nat} (h:Qt QL a=QG QL b):False:=by
 have:=congrArg Tm.name h;rw[Ou,SR]at this;simp[QL]at this
theorem RB {k K:Tm} {n:List UInt8} {s:Int} (h1:Tm.mk 2 n s []≠k) (h2:Tm.mk 2 n s []≠K):XU k K (.mk 2 n s [])=false:=by
 have n1: ¬Qh (.mk 2 n s []) k=0:=fun e=>h1 (Ze _ _ e);have n2: ¬Qh (.mk 2 n s []) K=0:=fun e=>h2 (Ze _ _ e);simp[XU,badL,n1,n2]
theorem Ek {i ep e:Nat} (h:e≠ep):XU (QG QL i) (Qt QL ep) (Qt QL e)=false:=
 RB (fun x=>HO (a:=e) (b:=i) x) (fun x=>h (Ji x))
theorem OJ {n n':List UInt8} {s s':Int} {l:List Tm} (h:s≠s'):Tm.mk 2 n s []≠Tm.mk 2 n' s' l:=fun e=>h (by injection e)
theorem CY {i ep j ex e:Nat} {ag:List UInt8} (h:e≠ep→j≠i):XU (QG QL i) (Qt QL ep) (YC ag (QG QL j) j ex (Qt QL e))=false:=by
 unfold YC Ui W3;rw[UJ rfl rfl];by_cases c:e=ep
 ·subst c;rw[if_pos ⟨rfl,Z3 _⟩]
 ·have hj:=h c;rw[if_neg (fun hh=>c (Ji (Ze _ _ hh.2))),Ek c,UJ rfl rfl,if_neg (by simp[QK,ENC]),UJ rfl rfl,if_neg (by simp[QK,ENC]),UJ rfl rfl,if_neg (by simp[QK,ENC])];have h1:XU (QG QL i) (Qt QL ep) (.mk 2 ag 1 [])=false:=RB (OJ (by decide)) (OJ (by decide));have h2:XU (QG QL i) (Qt QL ep) (QG QL j)=false:=RB (fun x=>hj (Qau x)) (fun x=>HO (a:=ep) (b:=j) x.symm);have h3: ∀n:Int,XU (QG QL i) (Qt QL ep) (Y1 n)=false:=fun n=>RB (OJ (by decide)) (OJ (by decide));rw[h1,h2,h3,h3];rfl
theorem QeM (n:Nat):Xa (Qt QL n)=false:=by
 unfold Xa;rw[if_neg (by simp[Qt]),if_pos (by simp[Qt]),if_neg (by simp[Qt]),if_neg (by simp[Qt]),if_pos (by simp[Qt]),Ou];simp[S8,QL]
theorem AE (n:Nat):Xa (QG QL n)=false:=by
 unfold Xa;rw[if_neg (by simp[QG]),if_pos (by simp[QG]),if_neg (by simp[QG]),if_neg (by simp[QG]),if_pos (by simp[QG]),SR];simp[S8,QL]
theorem Mf (ag:List UInt8) (i ex ep:Nat): (YC ag (QG QL i) i ex (Qt QL ep)).nodes=9∧(YC ag (QG QL i) i ex (Qt QL ep)).depth≤40:=by
 simp[YC,Ui,W3,Y1,QG,Qt,Tm.nodes,nodesL,Tm.depth,depthL]
theorem LA {l:List Tm} {c:Nat} (h: ∀x∈l,x.nodes≤c):nodesL l≤l.length*c:=by
 induction l with
 | nil=>simp[nodesL]
 | cons x l ih=>
  have h1:=h x (by simp);have h2:=ih fun y hy=>h y (by simp[hy]);simp only[nodesL,List.length_cons,Nat.add_mul,Nat.one_mul];omega
def Z7 (p:Pla):List Tm:=Z0 p.s ++ p.ts
structure QfX (p:Pla) (i:Nat) (t:Tm):Prop where
 fl:FLp (Z7 p ++ [QG QL i])
 er:VX (Z7 p ++ [QG QL i])=0
 ln: (Z7 p).length≤60
 kd: ∃x y,t.kids=[x,y]
 dr:PN (Z7 p) (QG QL i)=Q2 (Z0 p.s) (kid t 1)
theorem Az {m:Nat} {p:Pla} (h:T6 m p) (hm:m≤20) {i:Nat} {t:Tm} (ht:p.ts[i]? =some t):QfX p i t:=by
 have hv:Z0 p.s=p.s.keys.map Ep.key:=by
  unfold Z0;rw[if_pos (Od h.pv.s.ok)]
 have hkl:=h.pv.s.kl;have htl:=h.pv.tl;have hil:i < p.ts.length:=(List.getElem?_eq_some_iff.1 ht).1;obtain⟨c3,c4,c5⟩:=(Y9 p.s).1 h.pv.s.ok.ks;have hep:=h.pv.s.ok.ep;have hky: ∀x∈Z0 p.s,∃e:Nat,e≤10000∧x=Qt QL e:=fun x hx=>by
  rw[hv]at hx;obtain⟨k,hk,rfl⟩:=List.mem_map.1 hx;obtain⟨q1,q2,q3,_⟩:=Oo c5 k hk;refine⟨k.n.toNat,by omega,?_⟩;rw[q1,h.nm];congr 1;omega
 have htk: ∀x∈p.ts,∃(j ex e:Nat) (ag:List UInt8),p.ts[j]? =some x∧j < 1000∧QP ag=true∧e≤10000∧ex≤90000∧x=YC ag (QG QL j) j ex (Qt QL e):=fun x hx=>by
  obtain⟨j,hj,hjx⟩:=List.mem_iff_getElem.1 hx;have hj2:p.ts[j]? =some x:=by rw[List.getElem?_eq_getElem hj,hjx]
  obtain⟨_,ex,ag,e,g1,g2,g3,g4,g5⟩:=h.tk j x hj2;exact⟨j,ex,e,ag,hj2,by omega,g1,g2,g3,g5⟩
 have hpe: ∀x∈Z7 p ++ [QG QL i],PE x∧x.nodes≤400∧x.depth≤40:=fun x hx=>by
  unfold Z7 at hx;simp only[List.mem_append,List.mem_singleton]at hx;rcases hx with(hx | hx) | hx
  ·obtain⟨e,he,rfl⟩:=hky x hx;exact⟨QaJ (by omega),by simp[Qt,Tm.nodes,nodesL],by simp[Qt,Tm.depth,depthL]⟩
  ·obtain⟨j,ex,e,ag,_,hj,ha,he,hx2,rfl⟩:=htk x hx;have:=Mf ag j ex e;exact⟨QcR ha (by omega) (by omega) (by omega),by omega,this.2⟩
  ·subst hx;exact⟨H5 (by omega),by simp[QG,Tm.nodes,nodesL],by simp[QG,Tm.depth,depthL]⟩
 have hlen: (Z0 p.s).length≤8:=by rw[hv];simpa using hkl
 have hn: (YD (Z7 p ++ [QG QL i])).length≤200:=by
  have h1:=QaA (l:=Z7 p ++ [QG QL i]);have h2:nodesL (Z0 p.s)≤(Z0 p.s).length*1:=LA fun x hx=>by
   obtain⟨e,_,rfl⟩:=hky x hx;simp[Qt,Tm.nodes,nodesL]
  have h3:nodesL p.ts≤p.ts.length*9:=LA fun x hx=>by
   obtain⟨j,ex,e,ag,_,_,_,_,_,rfl⟩:=htk x hx;rw[(Mf ag j ex e).1];exact Nat.le_refl _
  have h4:nodesL [QG QL i]=1:=by simp[QG,Tm.nodes,nodesL]
  unfold Z7 at h1 ⊢;rw[Yz,Yz,h4]at h1;omega
 have hF:=Qeo hpe hn;have her:VX (Z7 p ++ [QG QL i])=0:=Ie fun x hx=>Nl (hpe x hx).1 (hpe x hx).2.1 (hpe x hx).2.2;obtain⟨_,ex,ag,ep,g1,g2,g3,g4,rfl⟩:=h.tk i t ht;have hkid:kid (YC ag (QG QL i) i ex (Qt QL ep)) 1=Qt QL ep:=rfl;refine⟨hF,her,by unfold Z7;simp;omega,⟨_,_,rfl⟩,?_⟩;rw[hkid];cases c:Q2 (Z0 p.s) (Qt QL ep)
 ·refine QcC (K:=Qt QL ep) hF (fun x hx=>(hpe x hx).1) rfl rfl (AE i) (QeM ep) fun x hx=> ?_;unfold Z7 at hx;rcases List.mem_append.1 hx with hx | hx
  ·obtain⟨e,he,rfl⟩:=hky x hx;apply Ek
   rintro rfl
   rw[Zo.2 hx]at c;cases c
  ·obtain⟨j,ex2,e,ag2,hj,_,_,_,_,rfl⟩:=htk x hx;apply CY
   rintro hne rfl
   rw[ht]at hj;simp only[Option.some.injEq,YC,Tm.mk.injEq,List.cons.injEq,and_true,true_and]at hj;exact hne (Ji hj.2).symm
 ·have hK:=Zo.1 c;refine QdQ (K:=Qt QL ep) (x:= .mk 2 ag 1 []) (y:=W3 (Y1 i) (Y1 ex)) hF ?_ ?_ (by unfold Z7;exact List.mem_append.2 (.inl hK))
  ·unfold Z7;refine List.mem_append.2 (.inr ?_);exact List.mem_of_getElem? ht
  ·have hx:YC ag (QG QL i) i ex (Qt QL ep)∈Z7 p ++ [QG QL i]:=by
    unfold Z7;exact List.mem_append.2 (.inl (List.mem_append.2 (.inr (List.mem_of_getElem? ht))))
   have h1:=Nl (hpe _ hx).1 (hpe _ hx).2.1 (hpe _ hx).2.2;unfold YY at h1;by_cases d:thV (YC ag (QG QL i) i ex (Qt QL ep))=0
   ·exact d
   ·rw[if_pos d]at h1;exact absurd h1 d
theorem BG {m:Nat} {p:Pla} (h:T6 m p) (hm:m≤20):
  ∀(post pre:List Tm) (o6 o7 o32:Bool) (ρ:Nat→AV),p.ks=pre ++ post→ρ 5= .bx (WZ p)→ρ 6= .sl o6 4 (encTs (Z0 p.s))→ρ 7= .sl o7 4 (encTs (Z7 p))→ρ 32= .sl o32 4 (encTs p.ks)→ρ 33= .int .i64 p.ks.length→ρ 34= .int .i64 pre.length→
  R F.tb (.loop F.f734l0) ρ [] (Qi 0 (Qu F.tb F.f734r0 (Qy F.f734 [])))=some (.bool true,[]):=by
 have hkl:=h.pv.kl;intro post
 induction post with
 | nil=>
  intro pre o6 o7 o32 ρ hk h5 h6 h7 h32 h33 h34;simp only[List.append_nil]at hk;rw[← hk]at h34;rw[Qd F.f734l0.eq_1];simp[h5,h6,h7,h32,h33,h34,F.f734r0]
 | cons x post IH=>
  intro pre o6 o7 o32 ρ hk h5 h6 h7 h32 h33 h34;have hg:=QB hk;have hll:=QM hk;have hw1:=wr1 pre.length (by omega);have hlt:=QO hk;have htl:pre.length < p.ts.length:=by have:=h.kl;omega
  obtain⟨t,ht⟩: ∃t,p.ts[pre.length]? =some t:=⟨_,List.getElem?_eq_getElem htl⟩;have hx:x=QG QL pre.length:=by
   have:=(h.tk _ t ht).1;rw[hg]at this;simpa using this
  have hD:=Az h hm ht;obtain⟨y0,y1,hkd⟩:=hD.kd;have hy:kid t 1=y1:=by simp[kid,hkd]
  have hdr:=hD.dr;rw[hy]at hdr;have c517:=fun o=>C8 hD.fl hD.er hD.ln o [];rw[← hx]at c517 hdr;have hmk: ∀z∈Z0 p.s,z.mass < big:=fun z hz=>by
   have:=(YV (hD.fl.rt z (by unfold Z7;simp[hz])).v).2.2;unfold big;omega
  have htg:t∈Z7 p ++ [QG QL pre.length]:=by
   unfold Z7;exact List.mem_append.2 (.inl (List.mem_append.2 (.inr (List.mem_of_getElem? ht))))
  have hmt:t.mass≤13200:=(YV (hD.fl.rt t htg).v).2.2;have hmy:y1.mass < big:=by
   have e:=Qr t;rw[hkd]at e;simp only[massL]at e;unfold big;omega
  have hln:=hD.ln;have c250:=fun o=>Bq (Z0 p.s) y1 o [] (by unfold Z7 at hln;simp at hln;omega) hmk hmy;have e4:=Qz t;have hgt: (encTs p.ts)[pre.length]? =some (Qb t):=by rw[Wt,ht];rfl
  have hg1: (encTs t.kids)[1]? =some (Qb y1):=by rw[Wt,hkd];rfl
  rw[e4]at hgt;rw[hdr]at c517;have ih:=fun o6 o7 o32 ρ=>IH (pre ++ [x]) o6 o7 o32 ρ (by rw[hk];simp);unfold WZ at h5 ih;generalize encTs (Z7 p)=EG at *;generalize encTs (Z0 p.s)=EK at *;generalize hEt:encTs p.ts=ET at *;generalize hEy:encTs t.kids=EY at *;generalize Q2 (Z0 p.s) y1=d at *;rw[Qd F.f734l0.eq_1];simp[h5,h6,h7,h32,h33,h34,hg,hlt,hw1,c517,c250,hgt,hg1,Qj];apply ih o6 o7 o32 <;> simp[h5,h6,h7,h32,h33]
theorem OK (w:Nat) (l:List OpU) (o:Bool) (hw:w < 256) (hl:l.length < 4611686018427387904) (ho: ∀x∈l,x.ok):
  call F.tb 734 [.int .u8 (w:Int),.sl o 3 (l.map UQ)] []=some (.bool true,[]):=by
 rw[Qa F.tb_734 _ _ rfl];by_cases c:l.length≤20
 ·have c1: ¬(20:Int) < (l.length:Int):=by omega
  have hp:=Iu w l false [] hw (by omega) ho;have h:=I2 w l (by omega);generalize WR w l=p at *;have hK:=GE p.s [] (by have:=h.pv.s.nl;omega) (by have:=h.pv.s.ok.ul;omega) h.pv.s.kb (by have:=h.pv.s.kl;omega);rw[Od h.pv.s.ok]at hK;have hkl8: (Z0 p.s).length≤8:=by
   have:=h.pv.s.kl;unfold Z0;split
   ·simpa using this
   ·simp
  have c407:=C7 (Z0 p.s) [] (by omega);have happ:=Yg (Z0 p.s) p.ts;have hgv:Z0 p.s ++ p.ts=Z7 p:=rfl;rw[hgv]at happ;have hel: (encTs (Z0 p.s)).length=(Z0 p.s).length:=YO _;have het: (encTs p.ts).length=p.ts.length:=YO _;have htl:=h.pv.tl;have hcap: ((Z0 p.s).length+p.ts.length)*56≤140737488355328:=by omega
  have hekl: (encTs p.ks).length=p.ks.length:=YO _;have hloop:=fun o6 o7 o32 ρ=>BG h c p.ks [] o6 o7 o32 ρ rfl;unfold WZ at hp hloop;unfold Qo at hK;generalize hEG:encTs (Z7 p)=EG at *;generalize hEK:encTs (Z0 p.s)=EK at *;generalize hET:encTs p.ts=ET at *;generalize hEKs:encTs p.ks=EKs at *;simp[F.f734C,NE,c1,hp,hK,c407,happ,hel,het,hcap,hekl];apply hloop false true false <;> simp
 ·have c1: (20:Int) < (l.length:Int):=by omega
  simp[F.f734C,NE,c1]
namespace S
def tb:Nat→Option AFn:=fun n=>if n=30 then some (.code F.f30)else if n=31 then some (.code F.f31)else if n=32 then some (.code F.f32)else if n=33 then some (.orc (Z2 O5))else none
theorem tb_30:tb 30=some (.code F.f30):=rfl
theorem tb_31:tb 31=some (.code F.f31):=rfl
theorem tb_32:tb 32=some (.code F.f32):=rfl
theorem tb_33:tb 33=some (.orc (Z2 O5)):=rfl
theorem PB (a b:Int) (bs:List (List AV)):call S.tb 32 [.int .i64 a,.int .i64 b] bs=some (.int .i64 (if a < b then -1 else if a > b then 1 else 0),bs):=by
 rw[Qa S.tb_32 _ _ rfl];simp[F.f32,F.f32C]
theorem Pu (t:Tm) (bs:List (List AV)) (hm:t.mass < big) (ih: ∀x∈t.kids,∀bs,call S.tb 31 [.agg (Qb x)] bs=some (.int .i64 x.nodes,bs)):
  ∀(post pre:List Tm) (ρ:Nat→AV),t.kids=pre ++ post→ρ 7= .sl false 4 (encTs t.kids)→ρ 8= .int .i64 t.kids.length→ρ 9= .int .i64 pre.length→ρ 3= .int .i64 (1+nodesL pre:Nat)→
  R S.tb (.loop F.f31l0) ρ bs (Qi 0 (Qu S.tb F.f31r0 (Qy F.f31 bs)))=some (.int .i64 t.nodes,bs):=by
 have hm2:=Qr t;have hn:=nodesL_le_mass t.kids;unfold big at hm;intro post
 induction post with
 | nil=>
  intro pre ρ hk h7 h8 h9 h3;rw[Qd F.f31l0.eq_1];simp at hk;simp[h3,h8,h9,← hk,F.f31r0,ZJ]
 | cons x post IH=>
  intro pre ρ hk h7 h8 h9 h3;have hg:=QB hk;have hl:=QM hk;have hnn:nodesL t.kids=nodesL pre+ (x.nodes+nodesL post):=by rw[hk,Yz];simp[nodesL]
  have hw1:=wr1 pre.length (by omega);have hw2:IntKind.i64.wrap (1+ (nodesL pre:Int)+ (x.nodes:Int))=1+ (nodesL pre:Int)+ (x.nodes:Int):=Qq (by omega) (by omega);have hlt:=QO hk;rw[Qd F.f31l0.eq_1];simp[h3,h7,h8,h9,hg,hw1,hw2,hlt,ih x (by rw[hk];simp)];rw[IH (pre ++ [x])] <;> simp[h3,h7,h8,h9,hk,Yz,nodesL];omega
theorem Ts: ∀(t:Tm) (bs:List (List AV)),t.mass < big→call S.tb 31 [.agg (Qb t)] bs=some (.int .i64 t.nodes,bs):=by
 refine ZU ?_;intro k n s ks ih bs hm;rw[Qa S.tb_31 _ _ rfl];simp[F.f31C];refine Pu (.mk k n s ks) bs hm (fun x hx bs=>ih x hx bs ?_) ks [] _ ?_ ?_ ?_ ?_ ?_ <;> (try simp[nodesL]);have:=QN hx;have:=Qr (.mk k n s ks);simp at *;omega
theorem RE (a b:Int) (bs:List (List AV)):call S.tb 32 [.int .i64 a,.int .i64 b] bs=some (.int .i64 (sgn a b),bs):=PB a b bs
theorem O4 (a b:List UInt8) (bs:List (List AV)):call S.tb 33 [.str a,.str b] bs=some (.int .i64 (Y7 a b),bs):=by
 rw[ZA S.tb_33];rfl
theorem T5 (t u:Tm) (bs:List (List AV)) (hm:t.mass < big) (hu:u.mass < big)
  (ih: ∀x∈t.kids,∀y bs,y.mass < big→call S.tb 30 [.agg (Qb x),.agg (Qb y)] bs=some (.int .i64 (Qh x y),bs)):
  ∀(xs ys pre pre':List Tm) (c:Int) (ρ:Nat→AV),t.kids=pre ++ xs→u.kids=pre' ++ ys→pre.length=pre'.length→(c=0→xs.length=ys.length)→
   ρ 2= .bx (Qb t)→ρ 3= .bx (Qb u)→ρ 5= .int .i64 c→ρ 6= .int .i64 pre.length→
  R S.tb (.loop F.f30l0) ρ bs (Qi 0 (Qu S.tb F.f30r0 (Qy F.f30 bs)))=some (.int .i64 (or0 c (cmpL xs ys)),bs):=by
 have hm2:=Qr t;have hu2:=Qr u;intro xs
 induction xs with
 | nil=>
  intro ys pre pre' c ρ hk hk' hp hc h2 h3 h5 h6;rw[Qd F.f30l0.eq_1];simp at hk;by_cases h0:c=0
  ·simp[h2,h3,h5,h6,h0,F.f30r0,hk,cmpL,Kh]
  ·simp[h2,h3,h5,h6,h0,F.f30r0,cmpL,Kh]
 | cons x xs IH=>
  intro ys pre pre' c ρ hk hk' hp hc h2 h3 h5 h6;rw[Qd F.f30l0.eq_1];by_cases h0:c=0
  ·obtain⟨y,ys',rfl⟩: ∃y ys',ys=y:: ys':=by
    have:=hc h0;cases ys with
    | nil=>simp at this
    | cons y ys'=>exact⟨y,ys',rfl⟩
   have hg:=QB hk;have hg':=QB hk';rw[← hp]at hg';have hl:t.kids.length=pre.length+ (xs.length+1):=by rw[hk];simp
   have hlt: (pre.length:Int) < (t.kids.length:Int):=by omega
   have hym:y.mass < big:=by have:=QN (x:=y) (ks:=u.kids) (by rw[hk'];simp);omega
   unfold big at hm hu;have hw1:=wr1 pre.length (by omega);simp[h2,h3,h5,h6,h0,hlt,hg,hg',hw1,ih x (by rw[hk];simp) y bs hym];rw[IH ys' (pre ++ [x]) (pre' ++ [y]) (Qh x y)] <;> first | omega | (simp[hk,hk',hp,h2,h3,cmpL,Vr];done) | (intro _;have:=hc h0;simp at this;omega)
  ·simp[h2,h3,h5,h6,h0,F.f30r0,cmpL,Ut]
theorem call_Compare: ∀(t u:Tm) (bs:List (List AV)),t.mass < big→u.mass < big→call S.tb 30 [.agg (Qb t),.agg (Qb u)] bs=some (.int .i64 (Qh t u),bs):=by
 refine ZU ?_;intro k n s ks ih u bs hm hu;have hloop:=T5 (.mk k n s ks) u bs hm hu (fun x hx y bs hy=>ih x hx y bs (by have:=QN hx;have:=Qr (.mk k n s ks);simp at *;omega) hy) ks u.kids [] [] (hdT (.mk k n s ks) u);rw[Qa S.tb_30 _ _ rfl,UN];have hsz:=Ts (.mk k n s ks) bs hm;have hsz':=Ts u bs hu;simp[F.f30C,hsz,hsz',RE,O4];by_cases c1:sgn (Tm.mk k n s ks).nodes u.nodes=0 <;> by_cases c2:sgn k u.kind=0 <;> by_cases c3:Y7 n u.name=0 <;> by_cases c4:sgn s u.sort=0 <;>
  simp[c1,c2,c3,c4,X5] <;> rw[hloop] <;> first | (simp[hdT,c1,c2,c3,c4,Vr,Ut];done) | (simp[hdT,c1,c2,c3,c4,Sn,Vr,Ut];omega) | skip
end S
open Go.Shelf Go.RowKit Go.Lib Go.Proofs Go.Sort
set_option maxRecDepth 8000
@[reducible] def drT:Dr:=⟨True⟩
theorem Ct {X:Nat→Prop} {w w':World} {m m':Nat→Nat} (h: @Zl drT X w m w' m') (hX: ∀b,b < w.heap.size→¬X b): ∃q os',w'=grow (w.drewN q) os':=by
 letI:=drT
 refine⟨w'.drawn - w.drawn,w'.heap.extract w.heap.size w'.heap.size,?_⟩;have h1:=h.os;have h2:=h.tape;have h3:=h.output;have h4:=h.drawn trivial;have h5:=h.size;have h6:w'.heap=w.heap ++ w'.heap.extract w.heap.size w'.heap.size:=by
  apply Array.ext_getElem?;intro i;rw[Array.getElem?_append];split
  ·rename_i hi;exact(h.same i hi (hX i hi)).1
  ·rename_i hi;rw[Array.getElem?_extract];split
   ·congr 1;omega
   ·rw[Array.getElem?_eq_none (by omega)]
 cases w;cases w'
 simp only[grow,World.drewN]at *;subst h1 h2 h3;congr 1;omega
def Mq (P:Program) (num:Nat→Option Nat) (g:Nat):Prop:=∀(w:World) (m:Nat→Nat) (β:List Blk) (x y:Array Value) (t u:Tm),t.mass < big→u.mass < big→
 Qc num β w m (.agg (Qb t)) (.agg x)→Qc num β w m (.agg (Qb u)) (.agg y)→
 Calls P g #[.agg x,.agg y] w fun e w'=>e= .returned (.int .i64 (Qh t u))∧∃q os',w'=grow (w.drewN q) os'
def G2: @Yi drT:= @Yi.mk drT (fun _=>True) 0 (fun _ _ _ _ _ _ _ _ _=>trivial)
theorem QbS {P:Program} {num:Nat→Option Nat} {g:Nat} (hn:num 30=some g) (hF: @Mr drT P num G2 S.tb):Mq P num g:=by
 intro w m β x y t u ht hu hx hy;have hc:=S.call_Compare t u (List.replicate β.length []) ht hu;obtain⟨n,hn2⟩:=W8.1 hc;have hK:= @SX P num S.tb drT G2 hF n;have h:=hK 30 g [.agg (Qb t),.agg (Qb u)] (List.replicate β.length []) _ _ hn hn2 rfl w m β (fun _=>none) #[.agg x,.agg y] trivial (Nat.zero_le _) rfl (by
  intro i c hi
  match i with
  | 0=>simp at hi;subst hi;exact⟨_,rfl,hx⟩
  | 1=>simp at hi;subst hi;exact⟨_,rfl,hy⟩
  | i+2=>simp at hi) ⟨by simp,fun i cs k h1 h2 h3=>by
   rw[List.getElem?_replicate]at h1;split at h1
   ·injection h1 with h1;exact absurd h1.symm h3
   ·cases h1⟩ (fun b p h=>by cases h)
 refine h.mono fun e w' he=> ?_;obtain⟨v,m',β',ν',rfl,_,hS,_,_,hR,_,_⟩:=he;simp only[Qc]at hR;subst hR;refine⟨rfl,Ct hS fun b _ hb=> ?_⟩;obtain⟨p,hp⟩:=hb;cases hp
end Go.Am
namespace Go.Am
open Go.RowKit
set_option maxRecDepth 8000
def leT (a b:Tm):Prop:=¬Qh b a < 0
theorem Lt {a b c:Tm} (h1:leT a b) (h2:leT b c):leT a c:=by
 intro h;rcases O6 a b with h3 | h3 | h3
 ·exact h2 (Z4 h h3)
 ·subst h3;exact h2 h
 ·exact h1 h3
theorem JH {a b:Tm} (h1:leT a b) (h2:leT b a):a=b:=by
 rcases O6 a b with h | h | h
 ·exact absurd h h2
 ·exact h
 ·exact absurd h h1
theorem Lr (t:Tm): ∀l:List Tm,(VQ t l).Perm (t:: l)
 | []=>List.Perm.refl _
 | x:: xs=>by
  simp only[VQ];split
  ·exact((Lr t xs).cons x).trans (List.Perm.swap t x xs)
  ·exact List.Perm.refl _
theorem Mm: ∀l:List Tm,(Zt l).Perm l
 | []=>List.Perm.refl _
 | t:: ts=>(Lr t (Zt ts)).trans ((Mm ts).cons t)
theorem OQ {t:Tm}: ∀{l:List Tm},l.Pairwise leT→(VQ t l).Pairwise leT
 | [],_=>by simp[VQ]
 | x:: xs,h=>by
  obtain⟨h1,h2⟩:=List.pairwise_cons.1 h;simp only[VQ];split
  ·rename_i c;refine List.pairwise_cons.2 ⟨fun y hy=> ?_,OQ h2⟩;rcases RZ.1 hy with rfl | hy
   ·intro h;have:=Yn y x;omega
   ·exact h1 y hy
  ·rename_i c;refine List.pairwise_cons.2 ⟨fun y hy=> ?_,h⟩;rcases List.mem_cons.1 hy with rfl | hy
   ·exact c
   ·exact Lt c (h1 y hy)
theorem Oj: ∀l:List Tm,(Zt l).Pairwise leT
 | []=>List.Pairwise.nil
 | t:: ts=>OQ (Oj ts)
theorem Hg {l ts:List Tm} (h1:l.Perm ts) (h2:l.Pairwise leT):l=Zt ts:=
 List.Perm.eq_of_pairwise (le:=leT) (fun a b _ _ h h'=>JH h h') h2 (Oj ts) (h1.trans (Mm ts).symm)
section
variable {num:Nat→Option Nat} {β:List Blk} {w:World} {m:Nat→Nat}
theorem BF {x:AV} {ks:List Tm} (h:Ja x=some ks): ∃o xs,x= .sl o 4 xs∧decE xs=some ks:=by
 unfold Ja at h;split at h
 ·exact⟨_,_,rfl,h⟩
 ·cases h
theorem BD {cs:List AV} {t:Tm} (h:PM cs=some t): ∃k n s x ks,cs=[.int .i64 k,.str n,.int .i64 s,x]∧Ja x=some ks∧t= .mk k n s ks:=by
 unfold PM at h;split at h
 ·rename_i k n s x;simp only[Option.map_eq_some_iff]at h;obtain⟨ks,h1,rfl⟩:=h;exact⟨k,n,s,x,ks,rfl,h1,rfl⟩
 ·cases h
theorem O7 {x:List AV} {xs:List (List AV)} {ts:List Tm} (h:decE (x:: xs)=some ts): ∃t ts',PM x=some t∧decE xs=some ts'∧ts=t:: ts':=by
 unfold decE at h;split at h
 ·rename_i t ts' h1 h2;injection h with h
  exact⟨t,ts',h1,h2,h.symm⟩
 ·cases h
theorem RH: ∀{xs:List (List AV)} {ts:List Tm},decE xs=some ts→ts.length=xs.length
 | [],ts,h=>by simp only[decE]at h;injection h with h;subst h;rfl
 | x:: xs,ts,h=>by
  obtain⟨t,ts',_,h2,rfl⟩:=O7 h;simp[RH h2]
theorem BE: ∀(t:Tm) (cs:List AV) (g:Nat→Option Value) (o:Nat),PM cs=some t→RepC num β w m cs g o→RepC num β w m (Qb t) g o:=by
 refine ZU ?_;intro k n s ks ih cs g o h hr;have hE: ∀(xs:List (List AV)) (ts:List Tm),(∀t∈ts,t∈ks)→decE xs=some ts→∀(g:Nat→Option Value) (o:Nat),RepE num β w m xs g o 4→RepE num β w m (encTs ts) g o 4:=by
  intro xs
  induction xs with
  | nil=>intro ts _ h g o hr;simp only[decE]at h;injection h with h;subst h;simp only[encTs,RepE]
  | cons x xs IH=>
   intro ts hm h g o hr;obtain⟨t,ts',h1,h2,rfl⟩:=O7 h;simp only[RepE]at hr;simp only[encTs,RepE];exact⟨Zw t,ih t (hm t (by simp)) x g o h1 hr.2.1,IH ts' (fun t ht=>hm t (by simp[ht])) h2 g (o+4) hr.2.2⟩
 obtain⟨k',n',s',x,ks',rfl,h1,h2⟩:=BD h;injection h2 with e1 e2 e3 e4
 subst e1 e2 e3 e4;obtain⟨o1,xs,rfl,h3⟩:=BF h1;simp only[Qb,RepC]at hr ⊢;obtain⟨a1,a2,a3,⟨u,a4,a5,a6⟩,_⟩:=hr;refine⟨a1,a2,a3,⟨u,a4,a5,?_⟩,trivial⟩;simp only[Qc]at a6 ⊢;obtain⟨a,len,cap,b1,b2,b3,b4,b5⟩:=a6;have hl:=RH h3;refine⟨a,len,cap,b1,by rw[YO];omega,b3,b4,?_⟩;rcases b5 with rfl | ⟨b,o2,b6,b7⟩
 ·left;simp only[decE]at h3;injection h3 with h3;subst h3;simp[encTs]
 ·exact .inr ⟨b,o2,b6,hE xs ks (fun t ht=>ht) h3 _ _ b7⟩
end
end Go.Am
namespace Go.Am
open Go.Shelf Go.RowKit Go.Lib Go.Proofs Go.Sort
set_option maxRecDepth 8000
structure El (num:Nat→Option Nat) (β:List Blk) (w:World) (m:Nat→Nat) where
 v:List Value
 t:Tm
 len:v.length=4
 one: ∀u∈v,u.oneCell'=true
 rep:Qc num β w m (.agg (Qb t)) (.agg v.toArray)
 mass:t.mass < big
section
variable {num:Nat→Option Nat} {β:List Blk} {w:World} {m:Nat→Nat}
theorem Gh {α:Type} [Inhabited α] (enc:α→List Value) (k:Nat) (w:World) (blk off q:Nat) (dk:Array α) (os:Array Obj) (b:Nat) (hb:b < w.heap.size):
  (sortWorldK enc k w blk off q dk os).heap[b]? =if b=blk then(w.heap[b]?).map (onCells (putCells id off (flatK enc k dk)))else w.heap[b]? :=by
 unfold sortWorldK putRowK putRow;rw[heap_grow_old _ _ (by simpa[mapBlock]using hb)];simp only[mapBlock,heap_ahead,Array.getElem?_modify];by_cases h:b=blk
 ·subst h;simp
 ·have: ¬blk=b:=fun e=>h e.symm;simp[h,this]
theorem Qdf {α:Type} [Inhabited α] (enc:α→List Value) (k:Nat) (w:World) (blk off q:Nat) (dk:Array α) (os:Array Obj):w.heap.size≤(sortWorldK enc k w blk off q dk os).heap.size:=by
 unfold sortWorldK putRowK putRow;simp[mapBlock]
theorem FW {α:Type} [Inhabited α] (enc:α→List Value) (k:Nat) {blk off q:Nat} (dk:Array α) (os:Array Obj) (hm:m blk=0):Le w m (sortWorldK enc k w blk off q dk os) m:=by
 intro b i u hu;unfold hg at hu ⊢;split at hu
 ·rename_i hi;rw[if_pos hi];have hb:b < w.heap.size:=by
   rcases Nat.lt_or_ge b w.heap.size with h1 | h1
   ·exact h1
   ·exfalso;unfold World.cell? at hu;rw[Array.getElem?_eq_none h1]at hu;cases hu
  have hne: ¬b=blk:=by intro e;subst e;omega
  unfold World.cell? at hu ⊢;rw[Gh enc k w blk off q dk os b hb,if_neg hne];exact hu
 ·cases hu
theorem Qdg:SWO (ltOf fun x y:El num β w m=>Qh x.t y.t) where
 irrefl:=fun x=>by simp[ltOf,Z3]
 trans:=fun x y z h1 h2=>by simp only[ltOf,decide_eq_true_eq]at *;exact Z4 h1 h2
 ntrans:=fun x y z h1 h2=>by
  simp only[ltOf,decide_eq_false_iff_not]at *;exact Lt (a:=z.t) (b:=y.t) (c:=x.t) h2 h1
theorem Bz [Inhabited (El num β w m)] {P:Program} {g blk off size:Nat} (hC:Mq P num g) (hm:m blk=0):CmpLays P g #[] (El.v (num:=num) (β:=β) (w:=w) (m:=m)) 4 (fun x y=>Qh x.t y.t) blk off size w:=by
 intro q os dk hdk x y;have h:=hC (sortWorldK El.v 4 w blk off q dk os) m β x.v.toArray y.v.toArray x.t y.t x.mass y.mass (QS (Ge.refl β) (FW El.v 4 dk os hm) _ _ x.rep) (QS (Ge.refl β) (FW El.v 4 dk os hm) _ _ y.rep);exact h
end
end Go.Am
namespace Go.Am
open Go.Shelf Go.RowKit Go.Lib Go.Proofs Go.Sort
set_option maxRecDepth 8000
theorem K8: ∀{xs:List (List AV)} {ts:List Tm} {j:Nat} {t:Tm},decE xs=some ts→ts[j]? =some t→∃x,xs[j]? =some x∧PM x=some t
 | [],ts,j,t,h,hj=>by simp only[decE]at h;injection h with h;subst h;simp at hj
 | x:: xs,ts,j,t,h,hj=>by
  obtain⟨t0,ts',h1,h2,rfl⟩:=O7 h;cases j with
  | zero=>simp at hj;subst hj;exact⟨x,rfl,h1⟩
  | succ j=>simp at hj;obtain⟨y,h3,h4⟩:=K8 h2 hj;exact⟨y,by simpa using h3,h4⟩
section
variable {num:Nat→Option Nat} {β:List Blk} {w:World} {m:Nat→Nat} {ν:Own}
theorem QcY {cur:Array Value} {cs:List AV} {o n:Nat} {ts:List Tm} (hcs:o+n*4≤cs.length)
  (hc: ∀(i:Nat) (c:AV),cs[i]? =some c→∃u,cur[i]? =some u∧u.oneCell'=true∧Qc num β w m c u) (hd:decE (QY cs o 4 n)=some ts) (hm: ∀t∈ts,t.mass < big):
  ∃d:List (El num β w m),d.length=n∧d.map (·.t)=ts∧∀(j:Nat) (e:El num β w m) (c:Nat),d[j]? =some e→c < 4→cur[o+j*4+c]? =e.v[c]? :=by
 have hlen:ts.length=n:=by rw[RH hd,Xc]
 have hex: ∀(j:Nat) (hj:j < n),∃e:El num β w m,some e.t=ts[j]? ∧∀(c:Nat),c < 4→cur[o+j*4+c]? =e.v[c]? :=by
  intro j hj;obtain⟨t,ht⟩: ∃t,ts[j]? =some t:=⟨_,List.getElem?_eq_getElem (by omega)⟩;obtain⟨x,hx,hdx⟩:=K8 hd ht;obtain⟨_,rfl⟩:=Uk hx;have hu: ∀(c:Nat),c < 4→∃u,cur[o+j*4+c]? =some u∧u.oneCell'=true∧∀(cc:AV),cs[o+j*4+c]? =some cc→Qc num β w m cc u:=by
   intro c hc4;have hlt:o+j*4+c < cs.length:=by omega
   obtain⟨u,h1,h2,h3⟩:=hc _ _ (List.getElem?_eq_getElem hlt);exact⟨u,h1,h2,fun cc hcc=>by rw[List.getElem?_eq_getElem hlt]at hcc;injection hcc with hcc;subst hcc;exact h3⟩
  obtain⟨u0,a0,b0,c0⟩:=hu 0 (by omega);obtain⟨u1,a1,b1,c1⟩:=hu 1 (by omega);obtain⟨u2,a2,b2,c2⟩:=hu 2 (by omega);obtain⟨u3,a3,b3,c3⟩:=hu 3 (by omega);have hrep:RepC num β w m (((cs.drop (o+j*4)).take 4).map AV.strip) (fun i=>[u0,u1,u2,u3][i]?) 0:=by
   rw[Zd];intro i c hi;obtain⟨c',hc',rfl⟩:=QQ hi;have hi4:i < 4:=by
    rcases Nat.lt_or_ge i 4 with h | h
    ·exact h
    ·rw[List.getElem?_eq_none (by rw[List.length_take];omega)]at hc';cases hc'
   rw[List.getElem?_take_of_lt hi4,List.getElem?_drop]at hc'
   match i,hi4,hc' with
   | 0,_,hc'=>exact⟨u0,rfl,b0,(Qx _ _).2 (c0 _ hc')⟩
   | 1,_,hc'=>exact⟨u1,rfl,b1,(Qx _ _).2 (c1 _ hc')⟩
   | 2,_,hc'=>exact⟨u2,rfl,b2,(Qx _ _).2 (c2 _ hc')⟩
   | 3,_,hc'=>exact⟨u3,rfl,b3,(Qx _ _).2 (c3 _ hc')⟩
  refine⟨⟨[u0,u1,u2,u3],t,rfl,by simp[b0,b1,b2,b3],?_,hm t (List.mem_of_getElem? ht)⟩,ht.symm,?_⟩
  ·simp only[Qc];exact⟨_,rfl,by simp,RepC_mono (Ge.refl β) (Le.refl w m) _ _ _ 0 (fun i u h=>by simpa using h) (BE t _ _ 0 hdx hrep)⟩
  ·intro c hc4
   match c,hc4 with
   | 0,_=>simpa using a0
   | 1,_=>simpa using a1
   | 2,_=>simpa using a2
   | 3,_=>simpa using a3
 refine⟨List.ofFn fun j:Fin n=>Classical.choose (hex j.1 j.2),by simp,?_,?_⟩
 ·apply List.ext_getElem?;intro j;rw[List.getElem?_map,List.getElem?_ofFn];split
  ·rename_i hj;rw[Option.map_some];exact(Classical.choose_spec (hex j hj)).1
  ·rename_i hj;rw[List.getElem?_eq_none (by omega)];rfl
 ·intro j e c hj hc4;rw[List.getElem?_ofFn]at hj;split at hj
  ·rename_i hjn;injection hj with hj
   subst hj;exact(Classical.choose_spec (hex j hjn)).2 c hc4
  ·cases hj
end
end Go.Am
