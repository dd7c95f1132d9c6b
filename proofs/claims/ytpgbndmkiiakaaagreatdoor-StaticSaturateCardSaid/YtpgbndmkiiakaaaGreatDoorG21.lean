/-
  Rc34, Rc35, Rc36, Rc37, Rc38, Rc39, Rc40.
-/
import Derived.Test.YtpgbndmkiiakaaaGreatDoorG20
set_option linter.unusedVariables false
set_option linter.unusedSimpArgs false
namespace Go.Am
set_option maxRecDepth 8000
def On (sec acc:List Tm) (x:Tm):Bool:= !Yh x && !sec.any (eqB x) && !acc.any (eqB x)
def YP (sec:List Tm):List Tm→List Tm→List Tm
 | acc,[]=>acc
 | acc,x:: r=>YP sec (if On sec acc x then acc ++ [x]else acc) r
def Vn (sec:List Tm):List Tm→List Tm→List Tm
 | acc,[]=>acc
 | acc,t:: r=>Vn sec (YP sec acc (Xn t)) r
theorem Nk (sec:List Tm): ∀(l acc:List Tm),(YP sec acc l).length≤acc.length+l.length
 | [],acc=>by simp[YP]
 | x:: r,acc=>by
  have h:=Nk sec r (if On sec acc x then acc ++ [x]else acc)
  simp only[YP,List.length_cons]
  split at h
  ·rename_i c;simp only[c,if_true];simp only[List.length_append,List.length_singleton]at h;omega
  ·rename_i c;simp only[c];simp only[Bool.false_eq_true,if_false];omega
theorem Ju {sec:List Tm}: ∀{l acc:List Tm} {y:Tm},y∈YP sec acc l→y∈acc∨y∈l
 | [],acc,y,h=> .inl h
 | x:: r,acc,y,h=>by
  simp only[YP]at h
  rcases Ju h with h | h
  ·split at h
   ·rcases List.mem_append.1 h with h | h
    ·exact .inl h
    ·simp at h;exact .inr (by simp[h])
   ·exact .inl h
  ·exact .inr (by simp[h])
theorem QkL {B0 B:List (List AV)} {v:AV} {l:List Tm} (x:Tm) (o:Bool) (h:TS B0 B v l) (hl:l.length < 1000000): ∃v' B',appM 56 4 v (.sl o 4 [Qa x]) B=some (v',B')∧TS B0 B' v' (l ++ [x]):=by
 obtain⟨M,id,sz,rfl,rfl,hc⟩:=h
 have hb: (l.length+1)*56≤140737488355328:=Yr (by omega)
 have hs:Wh 4 (.sl o 4 [Qa x]) (B0 ++ M)=some (1,Qa x):=by simp[Wh]
 rcases hc with⟨rfl,rfl,rfl⟩ | ⟨rfl,hid,hne0,hbx⟩
 ·refine⟨.gs (B0 ++ M).length 0 4 1,B0 ++ (M ++ [Qa x]),?_,M ++ [Qa x],(B0 ++ M).length,4,rfl,rfl,.inr ⟨rfl,by simp,by simp,?_⟩⟩
  ·simp[appM,hs]
  ·rw[← List.append_assoc,List.getElem?_concat_length];simp[Qw,ZL]
 ·have hr: (Qw l).length=l.length*4:=Z2 QO l
  have hrow:Qw (l ++ [x])=Qw l ++ Qa x:=by simp[Qw,XZ,Sa]
  have hst: (Qw l).map AV.strip=Qw l:=Z5 Zs l
  have hne:Qw l≠[]:=by
   intro e;rw[e]at hr;simp at hr
   exact hne0 (List.eq_nil_of_length_eq_zero (by omega))
  have hroom: ¬(l.length+1)*4≤(Qw l).length:=by omega
  refine⟨.gs (B0 ++ M).length 0 4 (l.length+1),(B0 ++ M).set id []++ [Qw l ++ Qa x],?_,M.set (id - B0.length) []++ [Qw l ++ Qa x],(B0 ++ M).length,4,?_,by simp,.inr ⟨rfl,by simp,by simp,?_⟩⟩
  ·simp only[appM,hs,Option.bind_some]
   rw[if_pos ⟨by omega,hb⟩,if_neg (by omega),if_neg (by omega),if_pos ⟨trivial,trivial⟩,hbx]
   simp only[Option.bind_some]
   rw[if_pos ⟨hne,by omega⟩,if_neg hroom,List.take_of_length_le (by omega),hst]
  ·rw[Y0 hid,List.append_assoc]
  ·have e: (B0 ++ M).length=((B0 ++ M).set id []).length:=by simp
   rw[hrow,e,List.getElem?_concat_length]
theorem Qhi (f:Fr) (hf:FOk f) (B0:List (List AV)) (A:List Tm) (hA: ∀x∈A,x.mass < 1000000) (hAl:A.length < 1000000) (c:AC) (K:Kn) (X:Out):
  ∀(post pre acc:List Tm) (B:List (List AV)) (v:AV) (o:Bool) (ρ:Nat→AV),A=pre ++ post→TS B0 B v acc→acc.length+post.length < 1000000→(∀x∈acc,x.mass < 1000000)→
   ρ 1= .bx (Qq f)→ρ 3=v→ρ 16= .sl o 4 (encTs A)→ρ 17= .int .i64 A.length→ρ 18= .int .i64 pre.length→
   (∀(ρ':Nat→AV) (B':List (List AV)) (v':AV),TS B0 B' v' (YP f.s acc post)→ρ' 3=v'→(∀j,j < 12→j≠3→j≠7→ρ' j=ρ j)→R F.tb c ρ' B' K=X)→
  R F.tb (.loop F.f209l0) ρ B (Qk 2 (Qk 1 (Qv F.tb c K)))=X:=by
 intro post
 induction post with
 | nil=>
  intro pre acc B v o ρ hk hts hal ham h1 h3 h16 h17 h18 h
  simp only[List.append_nil]at hk
  rw[← hk]at h18
  rw[Qc F.f209l0.eq_1]
  simp[h1,h16,h17,h18]
  refine h _ B v hts ?_ ?_
  ·simp[h3]
  ·intro j hj h3j h7j
   have:j≠19:=by omega
   simp[this]
 | cons x post IH=>
  intro pre acc B v o ρ hk hts hal ham h1 h3 h16 h17 h18 h
  have hg:=Qp hk
  have hll:A.length=pre.length+ (post.length+1):=by rw[hk];simp
  have hw1:IntKind.i64.wrap ((pre.length:Int)+1)=(pre.length:Int)+1:=Ql (by omega) (by omega)
  have hlt: (pre.length:Int) < (A.length:Int):=by omega
  have hxm:=hA x (by rw[hk];simp)
  have hxb:x.mass < big:=by unfold big;omega
  simp only[List.length_cons]at hal
  have c1:=PO x B hxm
  have c2:=E6 f.s x false B hf.sl (fun y hy=>by have:=hf.s y hy;unfold big;omega) hxb
  have c3:=QfS hts x (by omega) (fun y hy=>by have:=ham y hy;unfold big;omega) hxb
  obtain⟨id,sz,rfl⟩:=BI hts
  have hfr: ∀(ρ2:Nat→AV) (j:Nat),j < 12→j≠3→j≠7→(∀i,ρ2 i=ρ2 i):=fun _ _ _ _ _ _=>rfl
  have hjn: ∀j:Nat,j < 12→j≠18∧j≠19∧j≠20∧j≠21∧j≠22∧j≠23∧j≠24∧j≠25∧j≠26∧j≠27∧j≠28∧j≠29∧j≠30∧j≠31∧j≠32∧j≠33∧j≠34∧j≠35∧j≠36∧j≠37∧j≠38∧j≠39∧j≠40∧j≠41∧j≠42:=fun j hj=>by omega
  rw[Qc F.f209l0.eq_1]
  cases hn:On f.s acc x
  ·have e:YP f.s acc (x:: post)=YP f.s acc post:=by simp[YP,hn]
   have hi:=fun ρ2 h2=>IH (pre ++ [x]) acc B _ o ρ2 (by rw[hk];simp) hts (by omega) ham h2
   have key: ∀ρ2:Nat→AV,ρ2 1= .bx (Qq f)→ρ2 3= .gs id 0 sz acc.length→ρ2 16= .sl o 4 (encTs A)→ρ2 17= .int .i64 A.length→ρ2 18= .int .i64 ((pre ++ [x]).length:Nat)→(∀j,j < 12→j≠3→j≠7→ρ2 j=ρ j)→
     R F.tb (.loop F.f209l0) ρ2 B (Qk 2 (Qk 1 (Qv F.tb c K)))=X:=by
    intro ρ2 a1 a3 a16 a17 a18 aj
    refine hi ρ2 a1 a3 a16 a17 a18 fun ρ' B' v' t1 t2 t3=>h ρ' B' v' (by rw[e];exact t1) t2 fun j j1 j2 j3=> ?_
    rw[t3 j j1 j2 j3,aj j j1 j2 j3]
   unfold On at hn
   cases p1:Yh x
   ·rw[p1]at c1 hn
    cases p2:f.s.any (eqB x)
    ·rw[p2]at c2 hn
     have p3:acc.any (eqB x)=true:=by simpa using hn
     rw[p3]at c3
     simp[Qq,h1,h3,h16,h17,h18,hg,hlt,hw1,c1,c2,c3]
     refine key _ ?_ ?_ ?_ ?_ ?_ ?_
     all_goals first | (intro j j1 j2 j3;have:=hjn j j1;simp[this,j3];done) | simp[Qq,h1,h3,h16,h17]
    ·rw[p2]at c2
     simp[Qq,h1,h3,h16,h17,h18,hg,hlt,hw1,c1,c2]
     refine key _ ?_ ?_ ?_ ?_ ?_ ?_
     all_goals first | (intro j j1 j2 j3;have:=hjn j j1;simp[this,j3];done) | simp[Qq,h1,h3,h16,h17]
   ·rw[p1]at c1
    simp[Qq,h1,h3,h16,h17,h18,hg,hlt,hw1,c1]
    refine key _ ?_ ?_ ?_ ?_ ?_ ?_
    all_goals first | (intro j j1 j2 j3;have:=hjn j j1;simp[this,j3];done) | simp[Qq,h1,h3,h16,h17]
  ·have e:YP f.s acc (x:: post)=YP f.s (acc ++ [x]) post:=by simp[YP,hn]
   obtain⟨v2,B2,ha,hts2⟩:=QkL x false hts (by omega)
   have hi:=fun ρ2 h2=>IH (pre ++ [x]) (acc ++ [x]) B2 v2 o ρ2 (by rw[hk];simp) hts2 (by simp;omega) (fun y hy=>by
    rcases List.mem_append.1 hy with hy | hy
    ·exact ham y hy
    ·simp at hy;subst hy;exact hxm) h2
   have key: ∀ρ2:Nat→AV,ρ2 1= .bx (Qq f)→ρ2 3=v2→ρ2 16= .sl o 4 (encTs A)→ρ2 17= .int .i64 A.length→ρ2 18= .int .i64 ((pre ++ [x]).length:Nat)→(∀j,j < 12→j≠3→j≠7→ρ2 j=ρ j)→
     R F.tb (.loop F.f209l0) ρ2 B2 (Qk 2 (Qk 1 (Qv F.tb c K)))=X:=by
    intro ρ2 a1 a3 a16 a17 a18 aj
    refine hi ρ2 a1 a3 a16 a17 a18 fun ρ' B' v' t1 t2 t3=>h ρ' B' v' (by rw[e];exact t1) t2 fun j j1 j2 j3=> ?_
    rw[t3 j j1 j2 j3,aj j j1 j2 j3]
   obtain⟨id2,sz2,rfl⟩:=BI hts2
   unfold On at hn
   simp only[Bool.and_eq_true,Bool.not_eq_true']at hn
   obtain⟨⟨p1,p2⟩,p3⟩:=hn
   rw[p1]at c1
   rw[p2]at c2
   rw[p3]at c3
   simp[Qq,h1,h3,h16,h17,h18,hg,hlt,hw1,c1,c2,c3,ha]
   refine key _ ?_ ?_ ?_ ?_ ?_ ?_
   all_goals first | (intro j j1 j2 j3;have:=hjn j j1;simp[this,j2,j3];done) | simp[Qq,h1,h3,h16,h17]
end Go.Am
namespace Go.Am
set_option maxRecDepth 8000
theorem Lh (t:Tm): (Xn t).length≤t.nodes:=by
 have h1:=M0 ((QY t).filter (ZZ 2))
 have h2:=List.length_filter_le (ZZ 2) (QY t)
 rw[XG]at h2
 unfold Xn;omega
theorem LP {x t:Tm}:x∈Xn t↔x∈QY t∧x.kind=2:=by
 unfold Xn
 rw[VP,List.mem_filter]
 simp[ZZ]
theorem FC {x t:Tm} (h:x∈Xn t):x.mass≤t.mass:=XA t x (LP.1 h).1
theorem JH (sec:List Tm): ∀(l acc:List Tm),(Vn sec acc l).length≤acc.length+nodesL l
 | [],acc=>by simp[Vn]
 | t:: r,acc=>by
  have h1:=JH sec r (YP sec acc (Xn t))
  have h2:=Nk sec (Xn t) acc
  have h3:=Lh t
  simp only[Vn,nodesL];omega
theorem Qh4 {B0 B:List (List AV)} {v:AV} {l:List Tm} (h:TS B0 B v l) (hl:l.length < 1000000) (hm: ∀x∈l,x.mass < 1000000):
  ∃B',call F.tb 170 [v,.fn 30 []] B=some (.tup [],B')∧TS B0 B' v (Z0 l):=by
 obtain⟨M,id,sz,rfl,rfl,hc⟩:=h
 rcases hc with⟨rfl,rfl,rfl⟩ | ⟨rfl,hid,hne,hb⟩
 ·refine⟨B0 ++ M,?_,M,0,0,rfl,rfl,.inl ⟨rfl,rfl,rfl⟩⟩
  rw[XH F.tb_170];simp[OA]
 ·have hs:=Jg l (B0 ++ M) id hb (by omega) fun x hx=>by have:=hm x hx;unfold big;omega
  refine⟨_,hs,M.set (id - B0.length) (Qw (Z0 l)),id,4,Y0 hid _,by rw[WA],.inr ⟨rfl,hid,?_,?_⟩⟩
  ·intro e
   obtain⟨x,hx⟩:=List.exists_mem_of_ne_nil l hne
   have:=(Wz (l:=l)).2 hx
   rw[e]at this;simp at this
  ·have hlt:=Ug hb
   rw[List.getElem?_set,if_pos rfl,if_pos hlt]
theorem QkM {B0 B:List (List AV)} {v:AV} {l:List Tm} (h:TS B0 B v l) (n:Nat): ∃M2,∀ρ:Nat→AV,ρ n=v→Z4 {env:=ρ,bs:=B} n 4=some (.sl true 4 (encTs l),{env:=upd ρ n .undef,bs:=B0 ++ M2}):=by
 obtain⟨M,id,sz,rfl,rfl,hc⟩:=h
 rcases hc with⟨rfl,rfl,rfl⟩ | ⟨rfl,hid,hne,hb⟩
 ·exact⟨M,fun ρ hn=>by simp[Z4,hn,encTs]⟩
 ·refine⟨M.set (id - B0.length) [],fun ρ hn=> ?_⟩
  have hz: ¬l.length=0:=fun e=>hne (List.eq_nil_of_length_eq_zero e)
  have hr: (Qw l).length=l.length*4:=Z2 QO l
  have hch:ZU (Qw l) 0 4 l.length=encTs l:=by
   have:=Xx (f:=Qa) (k:=4) QO Zs l []
   rw[List.append_nil,UF]at this;exact this
  simp only[Z4,hn]
  rw[if_pos ⟨trivial,by omega⟩,if_neg hz,hb]
  simp only[Option.bind_some]
  rw[if_pos (by omega),hch,Y0 hid]
  rfl
theorem Qhk {B0 B:List (List AV)} {v:AV} {l:List Tm} (h:TS B0 B v l) (hl:l.length < 1000000) (hm: ∀x∈l,x.mass < 1000000) (ρ:Nat→AV) (h3:ρ 3=v):
  R F.tb F.f209r1 ρ B (Qx F.f209 B0)=some (.sl true 4 (encTs (Z0 l)),B0):=by
 obtain⟨B',hs,hts⟩:=Qh4 h hl hm
 obtain⟨M2,hf⟩:=QkM hts 46
 obtain⟨id,sz,rfl⟩:=BI h
 have hg:=encTs_gp (Z0 l)
 rw[← WA l]at hs hf h3
 simp[F.f209r1,h3,hs,hf,F.f209R,F.f209K]
theorem Qhj (f:Fr) (hf:FOk f) (B0:List (List AV)) (hM:massL f.t < 1000000):
  ∀(post pre acc:List Tm) (B:List (List AV)) (v:AV) (o:Bool) (ρ:Nat→AV),f.t=pre ++ post→TS B0 B v acc→acc.length+nodesL post < 1000000→(∀x∈acc,x.mass < 1000000)→
   ρ 1= .bx (Qq f)→ρ 3=v→ρ 9= .sl o 4 (encTs f.t)→ρ 10= .int .i64 f.t.length→ρ 11= .int .i64 pre.length→
  R F.tb (.loop F.f209l1) ρ B (Qk 0 (Qv F.tb F.f209r1 (Qx F.f209 B0)))=some (.sl true 4 (encTs (Z0 (Vn f.s acc post))),B0):=by
 have htl:=hf.tl
 intro post
 induction post with
 | nil=>
  intro pre acc B v o ρ hk hts hal ham h1 h3 h9 h10 h11
  simp only[List.append_nil]at hk
  rw[← hk]at h11
  have hr:=Qhk hts (by simp[nodesL]at hal;omega) ham
  rw[Qc F.f209l1.eq_1]
  simp[h1,h9,h10,h11,Vn]
  apply hr;simp[h3]
 | cons x post IH=>
  intro pre acc B v o ρ hk hts hal ham h1 h3 h9 h10 h11
  have hg:=Qp hk
  have hll:f.t.length=pre.length+ (post.length+1):=by rw[hk];simp
  have hw1:IntKind.i64.wrap ((pre.length:Int)+1)=(pre.length:Int)+1:=Ql (by omega) (by omega)
  have hlt: (pre.length:Int) < (f.t.length:Int):=by omega
  have hxm:=hf.t x (by rw[hk];simp)
  have hnm:=Zj x
  simp only[nodesL]at hal
  have hat:=Lh x
  have c1:=CB x B (by omega)
  have hfl:=Nk f.s (Xn x) acc
  have e:Vn f.s acc (x:: post)=Vn f.s (YP f.s acc (Xn x)) post:=rfl
  rw[e]
  have hAm: ∀y∈Xn x,y.mass < 1000000:=fun y hy=>by have:=FC hy;omega
  rw[Qc F.f209l1.eq_1]
  simp[h1,h9,h10,h11,hg,hlt,c1]
  refine Qhi f hf B0 (Xn x) hAm (by omega) _ _ _ (Xn x) [] acc B v true _ rfl hts (by omega) ham ?_ ?_ ?_ ?_ ?_ ?_
  ·simp[h1]
  ·simp[h3]
  ·simp
  ·simp
  ·simp
  ·intro ρ' B' v' t1 t2 t3
   have g1:ρ' 1=_:=t3 1 (by omega) (by omega) (by omega)
   have g9:ρ' 9=_:=t3 9 (by omega) (by omega) (by omega)
   have g10:ρ' 10=_:=t3 10 (by omega) (by omega) (by omega)
   have g11:ρ' 11=_:=t3 11 (by omega) (by omega) (by omega)
   simp[h1,h9,h10,h11]at g1 g9 g10 g11
   have hi:=fun ρ2=>IH (pre ++ [x]) (YP f.s acc (Xn x)) B' v' o ρ2 (by rw[hk];simp) t1 (by omega) (fun y hy=>by
    rcases Ju hy with hy | hy
    ·exact ham y hy
    ·exact hAm y hy)
   simp[F.f209r0,g11,hw1]
   apply hi <;> simp[g1,t2,g9,g10]
def Zt (f:Fr):List Tm:=Z0 (Vn f.s [] f.t)
theorem E5 (f:Fr) (hf:FOk f) (hM:massL f.t < 1000000) (bs:List (List AV)):call F.tb 209 [.agg (Qq f)] bs=some (.sl true 4 (encTs (Zt f)),bs):=by
 have hn:=nodesL_le_mass f.t
 have h:=fun ρ=>Qhj f hf bs hM f.t [] [] bs (.gs 0 0 0 0) false ρ rfl (QkN bs) (by simp;omega) (by simp)
 rw[Qb F.tb_209 _ _ rfl]
 simp[F.f209B,F.f209C,Qq]
 apply h <;> simp[Qq]
end Go.Am
namespace Go.Am
set_option maxRecDepth 8000
def YI (sec:List Tm) (x:Tm):Bool:=decide (x.kind=2) && !Yh x && !W8 sec x
theorem Cg (f:Fr) (hf:FOk f) (L:List Tm) (bs:List (List AV)) (hL:L.length < 1000000) (hm: ∀x∈L,x.mass < 1000000):
  ∀(post pre acc:List Tm) (o:Bool) (ρ:Nat→AV),L=pre ++ post→acc.length+post.length < 1000000→ρ 1= .bx (Qq f)→ρ 3= .sl true 4 (encTs acc)→ρ 4= .sl o 4 (encTs L)→ρ 5= .int .i64 pre.length→
  R F.tb (.loop F.f264l0) ρ bs (Qk 0 (Qv F.tb F.f264r0 (Qx F.f264 bs)))=some (.sl false 4 (encTs (acc ++ post.filter (YI f.s))),bs):=by
 intro post
 induction post with
 | nil=>
  intro pre acc o ρ hk ha h1 h3 h4 h5
  simp only[List.append_nil]at hk
  rw[← hk]at h5
  rw[Qc F.f264l0.eq_1]
  simp[h1,h3,h4,h5,F.f264r0,F.f264R,F.f264K]
 | cons x post IH=>
  intro pre acc o ρ hk ha h1 h3 h4 h5
  have hg:=Qp hk
  have hll:L.length=pre.length+ (post.length+1):=by rw[hk];simp
  have hw1:IntKind.i64.wrap ((pre.length:Int)+1)=(pre.length:Int)+1:=Ql (by omega) (by omega)
  have hlt: (pre.length:Int) < (L.length:Int):=by omega
  have hxm:=hm x (by rw[hk];simp)
  have c1:=PP x bs hxm
  have hsl:=hf.sl
  have c2:=My f.s x false bs (by omega) (fun y hy=>by have:=hf.s y hy;unfold big;omega) (by unfold big;omega)
  simp only[List.length_cons]at ha
  have hb: (acc.length+1)*56≤140737488355328:=Yr (by omega)
  have h2:=fun ρ=>IH (pre ++ [x]) acc o ρ (by rw[hk];simp) (by omega)
  have h2':=fun ρ=>IH (pre ++ [x]) (acc ++ [x]) o ρ (by rw[hk];simp) (by simp;omega)
  simp only[List.append_assoc,List.cons_append,List.nil_append]at h2'
  rw[Qc F.f264l0.eq_1]
  by_cases e1:x.kind=2
  ·cases e2:Yh x
   ·cases e3:W8 f.s x
    ·have e: (x:: post).filter (YI f.s)=x:: post.filter (YI f.s):=by simp[YI,e1,e2,e3]
     rw[e]
     generalize post.filter (YI f.s)=P at *
     simp[Qq,h1,h3,h4,h5,hg,hlt,hw1,c1,c2,e1,e2,e3,hb,Zb,QQ]
     apply h2' <;> simp[h1,Qq,h4]
    ·have e: (x:: post).filter (YI f.s)=post.filter (YI f.s):=by simp[YI,e1,e2,e3]
     rw[e]
     generalize post.filter (YI f.s)=P at *
     simp[Qq,h1,h3,h4,h5,hg,hlt,hw1,c1,c2,e1,e2,e3]
     apply h2 <;> simp[h1,h3,Qq,h4]
   ·have e: (x:: post).filter (YI f.s)=post.filter (YI f.s):=by simp[YI,e1,e2]
    rw[e]
    generalize post.filter (YI f.s)=P at *
    simp[Qq,h1,h3,h4,h5,hg,hlt,hw1,c1,e1,e2]
    apply h2 <;> simp[h1,h3,Qq,h4]
  ·have e: (x:: post).filter (YI f.s)=post.filter (YI f.s):=by simp[YI,e1]
   rw[e]
   generalize post.filter (YI f.s)=P at *
   simp[Qq,h1,h3,h4,h5,hg,hlt,hw1,e1]
   apply h2 <;> simp[h1,h3,Qq,h4]
theorem Mn {sec:List Tm}: ∀{l acc:List Tm},acc.Nodup→(YP sec acc l).Nodup
 | [],acc,h=>h
 | x:: r,acc,h=>by
  simp only[YP]
  apply Mn
  split
  ·rename_i hn
   simp only[On,Bool.and_eq_true,Bool.not_eq_true']at hn
   have h3:x ∉ acc:=by
    intro hx
    have:acc.any (eqB x)=true:=List.any_eq_true.2 ⟨x,hx,by simp[eqB,Y8]⟩
    rw[hn.2]at this;cases this
   rw[List.nodup_append]
   exact⟨h,by simp,fun a ha b hb=>by simp at hb;subst hb;intro e;subst e;exact h3 ha⟩
  ·exact h
theorem Mo {sec:List Tm}: ∀{l acc:List Tm},acc.Nodup→(Vn sec acc l).Nodup
 | [],acc,h=>h
 | t:: r,acc,h=>Mo (l:=r) (Mn h)
theorem H2 {t:Tm}: ∀{l:List Tm},Asc l→t ∉ l→Asc (W9 t l)
 | [],_,_=>NT t
 | x:: xs,h,hn=>by
  obtain⟨h1,h2⟩:=Ye.1 h
  simp only[List.mem_cons,not_or]at hn
  simp only[W9]
  split
  ·rename_i c
   refine Ye.2 ⟨fun y hy=> ?_,H2 h2 hn.2⟩
   rcases So.1 hy with rfl | hy
   ·exact c
   ·exact h1 y hy
  ·rename_i c
   have c2:Qm t x < 0:=by
    rcases Oc t x with h | h | h
    ·exact h
    ·exact absurd h hn.1
    ·exact absurd h c
   refine Ye.2 ⟨fun y hy=> ?_,h⟩
   rcases List.mem_cons.1 hy with rfl | hy
   ·exact c2
   ·exact Ys c2 (h1 y hy)
theorem K9: ∀{l:List Tm},l.Nodup→Asc (Z0 l)
 | [],_=>Asc.nil
 | t:: ts,h=>by
  obtain⟨h1,h2⟩:=List.nodup_cons.1 h
  exact H2 (K9 h2) fun hm=>h1 (Wz.1 hm)
def Ib (sec:List Tm) (x:Tm):Prop:=Yh x=false∧W8 sec x=false
theorem GL (l:List Tm) (x:Tm):l.any (eqB x)=W8 l x:=rfl
theorem JE {sec:List Tm}: ∀{l acc:List Tm} {y:Tm},y∈YP sec acc l↔y∈acc∨(y∈l∧Ib sec y)
 | [],acc,y=>by simp[YP]
 | x:: r,acc,y=>by
  simp only[YP]
  rw[JE]
  cases hn:On sec acc x
  ·simp only[Bool.false_eq_true,if_false,List.mem_cons]
   constructor
   ·rintro(h | h)
    ·exact .inl h
    ·exact .inr ⟨.inr h.1,h.2⟩
   ·rintro(h | ⟨h | h,hf⟩)
    ·exact .inl h
    ·subst h
     left
     simp only[On,GL,hf.1,hf.2,Bool.not_false,Bool.true_and,Bool.not_eq_false']at hn
     exact MK.1 hn
    ·exact .inr ⟨h,hf⟩
  ·simp only[if_true,List.mem_append,List.mem_cons]
   simp only[On,GL,Bool.and_eq_true,Bool.not_eq_true']at hn
   constructor
   ·rintro((h | h) | h)
    ·exact .inl h
    ·simp at h;subst h;exact .inr ⟨.inl rfl,hn.1.1,hn.1.2⟩
    ·exact .inr ⟨.inr h.1,h.2⟩
   ·rintro(h | ⟨h | h,hf⟩)
    ·exact .inl (.inl h)
    ·exact .inl (.inr (by simp[h]))
    ·exact .inr ⟨h,hf⟩
theorem ST {sec:List Tm}: ∀{l acc:List Tm} {y:Tm},y∈Vn sec acc l↔y∈acc∨(y∈allL l∧y.kind=2∧Ib sec y)
 | [],acc,y=>by simp[Vn,allL]
 | t:: r,acc,y=>by
  simp only[Vn]
  rw[ST,JE,LP]
  simp only[allL,List.mem_append]
  constructor
  ·rintro((h | ⟨⟨h1,h2⟩,h3⟩) | ⟨h1,h2,h3⟩)
   ·exact .inl h
   ·exact .inr ⟨.inl h1,h2,h3⟩
   ·exact .inr ⟨.inr h1,h2,h3⟩
  ·rintro(h | ⟨h1 | h1,h2,h3⟩)
   ·exact .inl (.inl h)
   ·exact .inl (.inr ⟨⟨h1,h2⟩,h3⟩)
   ·exact .inr ⟨h1,h2,h3⟩
theorem Qhh (f:Fr): (Xm (allL f.t)).filter (YI f.s)=Zt f:=by
 refine NS (List.Pairwise.filter _ (H3 _)) (K9 (Mo List.nodup_nil)) fun x=> ?_
 rw[List.mem_filter,VP,Zt,Wz,ST]
 simp only[YI,Ib,Bool.and_eq_true,decide_eq_true_eq,Bool.not_eq_true',List.not_mem_nil,false_or]
 constructor
 ·rintro⟨h1,⟨h2,h3⟩,h4⟩;exact⟨h1,h2,h3,h4⟩
 ·rintro⟨h1,h2,h3,h4⟩;exact⟨h1,⟨h2,h3⟩,h4⟩
theorem P7 {x:Tm}: ∀{l:List Tm},x∈allL l→x.mass≤massL l
 | [],h=>by simp[allL]at h
 | t:: ts,h=>by
  simp only[allL,List.mem_append]at h
  simp only[massL]
  rcases h with h | h
  ·have:=XA t x h;omega
  ·have:=P7 h;omega
theorem Dd (f:Fr) (hf:FOk f) (hM:massL f.t < 1000000) (bs:List (List AV)):call F.tb 264 [.agg (Qq f)] bs=some (.sl false 4 (encTs (Zt f)),bs):=by
 have hn:=nodesL_le_mass f.t
 have htl:=hf.tl
 have hs:=JX f.t false bs (by omega) (by omega)
 have hlen:=M0 (allL f.t)
 rw[allL_len]at hlen
 have h:=fun o ρ=>Cg f hf (Xm (allL f.t)) bs (by omega) (fun x hx=>by have:=P7 (VP.1 hx);omega) (Xm (allL f.t)) [] [] o ρ rfl (by simp;omega)
 rw[Qhh,List.nil_append]at h
 rw[Qb F.tb_264 _ _ rfl]
 simp[F.f264B,F.f264C,Qq,hs]
 refine h false _ ?_ ?_ ?_ ?_ <;> simp[Qq,encTs]
end Go.Am
namespace Go.Am
set_option maxRecDepth 8000
theorem QX (f:Fr): (Qq f).take 2=Qq f:=rfl
theorem QG (f:Fr): (Qq f).map AV.strip=Qq f:=rfl
theorem Q4 (f:Fr): (Qq f).length=2:=rfl
def MI (f:Fr):List Tm:=if Za f=0 then f.t ++ Zt f else []
theorem SL (f:Fr): (Zt f).length≤nodesL f.t:=by
 unfold Zt
 rw[WA]
 have:=JH f.s f.t []
 simpa using this
theorem Qdp (f:Fr) (hf:FOk f) (hM:massL f.t < 1000000) (bs:List (List AV)):
  ∀(post pre:List Tm) (ρ:Nat→AV),f.t=pre ++ post→ρ 1= .bx (Qq f)→ρ 3= .int .i64 0→ρ 5= .sl true 4 (encTs pre)→ρ 14= .sl false 4 (encTs f.t)→ρ 15= .int .i64 f.t.length→ρ 16= .int .i64 pre.length→
  R F.tb (.loop F.f157l0) ρ bs (Qk 0 (Qv F.tb F.f157r0 (Qx F.f157 bs)))=some (.tup [.sl false 4 (encTs (f.t ++ Zt f)),.int .i64 0],bs):=by
 have htl:=hf.tl
 have hn:=nodesL_le_mass f.t
 have hfl:=SL f
 intro post
 induction post with
 | nil=>
  intro pre ρ hk h1 h3 h5 h14 h15 h16
  simp only[List.append_nil]at hk
  rw[← hk]at h16 h5
  have hc:=E5 f hf hM bs
  have hb: (f.t.length+ (Zt f).length)*56≤140737488355328:=Yr (by omega)
  rw[Qc F.f157l0.eq_1]
  simp[h1,h3,h5,h14,h15,h16,F.f157r0,QX,QG,Q4,hc,hb,QQ,F.f157R,F.f157K]
 | cons x post IH=>
  intro pre ρ hk h1 h3 h5 h14 h15 h16
  have hg:=Qp hk
  have hll:f.t.length=pre.length+ (post.length+1):=by rw[hk];simp
  have hw1:IntKind.i64.wrap ((pre.length:Int)+1)=(pre.length:Int)+1:=Ql (by omega) (by omega)
  have hlt: (pre.length:Int) < (f.t.length:Int):=by omega
  have hxm:=hf.t x (by rw[hk];simp)
  have hc:=E4 x bs (by unfold big;omega)
  have hb: (pre.length+1)*56≤140737488355328:=Yr (by omega)
  have hi:=fun ρ=>IH (pre ++ [x]) ρ (by rw[hk];simp)
  rw[Qc F.f157l0.eq_1]
  simp[h1,h3,h5,h14,h15,h16,hg,hlt,hw1,hc,hb,Zb,QQ]
  apply hi <;> simp[h1,h3,h14,h15]
theorem QfA (f:Fr) (hf:FOk f) (hM:massL f.t < 1000000) (bs:List (List AV)):call F.tb 157 [.agg (Qq f)] bs=some (.tup [.sl false 4 (encTs (MI f)),.int .i64 (Za f)],bs):=by
 have h1:=KE f bs hf
 have h:=fun ρ=>Qdp f hf hM bs f.t [] ρ rfl
 rw[Qb F.tb_157 _ _ rfl]
 by_cases c:Za f=0
 ·have e:MI f=f.t ++ Zt f:=by simp[MI,c]
  rw[e,c]
  rw[c]at h1
  generalize f.t ++ Zt f=L at *
  simp[F.f157B,F.f157C,QX,QG,Q4,h1]
  simp[Qq]
  apply h <;> simp[Qq,encTs]
 ·have e:MI f=[]:=by simp[MI,c]
  rw[e]
  simp[F.f157B,F.f157C,F.f157R,F.f157K,QX,QG,Q4,h1,c,encTs]
end Go.Am
namespace Go.Am
set_option maxRecDepth 8000
def Xe (i:Nat):Tm:= .mk 1 (119:: Xr i) 0 []
theorem Nn (i:Nat) (h:i < 1000000000): (Xe i).mass≤100:=by
 have:=Uc 9 i (by omega)
 simp only[Xe,Tm.mass,massL,List.length_cons,List.length_nil];omega
theorem QfW (i:Nat) (bs:List (List AV)) (h:i < 1000000000):call F.tb 223 [.int .i64 i] bs=some (.agg (Qa (Xe i)),bs):=by
 have h1:=Jc i bs h
 have h2:=Uc 9 i (by omega)
 have h3:1+ (Xr i).length≤9223372036854775807:=by omega
 rw[Qb F.tb_223 _ _ rfl]
 simp[F.f223,F.f223C,h1,h3,Xe,X6]
 simp[Qa,encTs]
def VM (x:Tm):Nat→List Tm→Option (Nat×Tm)
 | _,[]=>none
 | k,t:: ts=>if Qm (Xe k) x=0 then some (k,t)else VM x (k+1) ts
def ixT (x:Tm) (k:Nat) (l:List Tm):Int:=match VM x k l with
 | some p=>p.1
 | none=> -1
theorem Qhp (x:Tm) (k:Nat):ixT x k []= -1:=rfl
theorem Qdz (x t:Tm) (k:Nat) (ts:List Tm):ixT x k (t:: ts)=if Qm (Xe k) x=0 then(k:Int)else ixT x (k+1) ts:=by
 simp only[ixT,VM]
 by_cases c:Qm (Xe k) x=0
 ·simp[c]
 ·simp[c]
theorem C5 (f:Fr) (hf:FOk f) (x:Tm) (hx:x.mass < big) (bs:List (List AV)):
  ∀(post pre:List Tm) (ρ:Nat→AV),f.t=pre ++ post→ρ 3= .bx (Qa x)→ρ 8= .int .i64 f.t.length→ρ 9= .int .i64 pre.length→
  R F.tb (.loop F.f222l0) ρ bs (Qk 0 (Qv F.tb F.f222r0 (Qx F.f222 bs)))=some (.int .i64 (ixT x pre.length post),bs):=by
 have htl:=hf.tl
 intro post
 induction post with
 | nil=>
  intro pre ρ hk h3 h8 h9
  simp only[List.append_nil]at hk
  rw[← hk]at h9
  rw[Qc F.f222l0.eq_1]
  simp[h3,h8,h9,F.f222r0,F.f222R,F.f222K,Qhp]
 | cons y post IH=>
  intro pre ρ hk h3 h8 h9
  have hll:f.t.length=pre.length+ (post.length+1):=by rw[hk];simp
  have hw1:IntKind.i64.wrap ((pre.length:Int)+1)=(pre.length:Int)+1:=Ql (by omega) (by omega)
  have hlt: (pre.length:Int) < (f.t.length:Int):=by omega
  have hc1:=QfW pre.length bs (by omega)
  have hc2:=E8 (Xe pre.length) x bs (by have:=Nn pre.length (by omega);unfold big;omega) hx
  rw[Qc F.f222l0.eq_1,Qdz]
  by_cases c:Qm (Xe pre.length) x=0
  ·simp[h3,h8,h9,hlt,hc1,hc2,c,F.f222R,F.f222K]
  ·have hi:=fun ρ=>IH (pre ++ [y]) ρ (by rw[hk];simp)
   simp only[List.length_append,List.length_singleton]at hi
   simp[h3,h8,h9,hlt,hc1,hc2,hw1,c]
   apply hi <;> simp[h3,h8]
theorem E9 (f:Fr) (hf:FOk f) (x:Tm) (hx:x.mass < big) (bs:List (List AV)):call F.tb 222 [.agg (Qq f),.agg (Qa x)] bs=some (.int .i64 (ixT x 0 f.t),bs):=by
 have h:=fun ρ=>C5 f hf x hx bs f.t [] ρ rfl
 rw[Qb F.tb_222 _ _ rfl]
 simp only[List.length_nil]at h
 simp[F.f222B,F.f222C,QX,QG,Q4]
 simp[Qq]
 apply h <;> simp
def SK:List UInt8:=[115,107]
def SHK:List UInt8:=[115,104,107]
def NEW:List UInt8:=[110,101,119]
def VF (n:List UInt8):Bool:=n == SK || n == SHK || n == NEW
theorem QfX (n:List UInt8) (bs:List (List AV)):call F.tb 224 [.str n] bs=some (.bool (VF n),bs):=by
 rw[Qb F.tb_224 _ _ rfl]
 by_cases c1:n=SK
 ·simp[F.f224B,F.f224C,F.f224R,F.f224K,VF,SK,c1]
 ·by_cases c2:n=SHK
  ·simp only[SK,SHK]at c1 c2
   simp[F.f224B,F.f224C,F.f224R,F.f224K,VF,SK,SHK,c1,c2]
  ·simp only[SK,SHK]at c1 c2
   simp[F.f224B,F.f224C,F.f224R,F.f224K,VF,SK,SHK,NEW,c1,c2]
def Xv (f a:List Tm) (x:Tm):Int:=if x.kind=1 then(if ixT x 0 f < 0 then 13 else 0)else if x.kind=2 then(if Yh x then 0 else if a.any (eqB x)then 0 else 13)else if VF x.name then 10 else 0
def frE (f a:List Tm):List Tm→Int
 | []=>0
 | x:: xs=>if Xv f a x≠0 then Xv f a x else frE f a xs
theorem DH (f a:List Tm): ∀l m:List Tm,frE f a (l ++ m)=if frE f a l≠0 then frE f a l else frE f a m
 | [],m=>by simp[frE]
 | x:: l,m=>by
  simp only[List.cons_append,frE,DH f a l m]
  by_cases c:Xv f a x=0
  ·simp[c]
  ·simp[c]
theorem CY (f:Fr) (a:List Tm) (t:Tm) (bs:List (List AV)) (hm:t.mass < 1000000)
  (ih: ∀x∈t.kids,∀(bs:List (List AV)) (o:Bool),call F.tb 221 [.agg (Qq f),.sl o 4 (encTs a),.agg (Qa x)] bs=some (.int .i64 (frE f.t a (QY x)),bs)):
  ∀(post pre:List Tm) (ρ:Nat→AV) (o:Bool),t.kids=pre ++ post→ρ 1= .sl o 4 (encTs a)→ρ 3= .bx (Qq f)→ρ 33= .sl false 4 (encTs t.kids)→ρ 34= .int .i64 t.kids.length→ρ 35= .int .i64 pre.length→
  R F.tb (.loop F.f221l0) ρ bs (Qk 1 (Qv F.tb F.f221r0 (Qx F.f221 bs)))=some (.int .i64 (frE f.t a (allL post)),bs):=by
 have hm2:=Qo t
 intro post
 induction post with
 | nil=>
  intro pre ρ o hk h1 h3 h33 h34 h35
  simp only[List.append_nil]at hk
  rw[← hk]at h35
  rw[Qc F.f221l0.eq_1]
  simp[h1,h3,h33,h34,h35,F.f221r0,F.f221R,F.f221K,allL,frE]
 | cons x post IH=>
  intro pre ρ o hk h1 h3 h33 h34 h35
  have hg:=Qp hk
  have hll:t.kids.length=pre.length+ (post.length+1):=by rw[hk];simp
  have hw1:IntKind.i64.wrap ((pre.length:Int)+1)=(pre.length:Int)+1:=Ql (by omega) (by omega)
  have hlt: (pre.length:Int) < (t.kids.length:Int):=by omega
  have hc:=ih x (by rw[hk];simp) bs
  rw[Qc F.f221l0.eq_1]
  simp only[allL,DH]
  by_cases c:frE f.t a (QY x)=0
  ·have h2:=fun ρ=>IH (pre ++ [x]) ρ o (by rw[hk];simp)
   rw[if_neg (by simpa using c)]
   simp[h1,h3,h33,h34,h35,hg,hlt,hw1,hc,c,QX,QG,Q4]
   apply h2 <;> simp[h1,h3,h33,h34]
  ·rw[if_pos c]
   simp[h1,h3,h33,h34,h35,hg,hlt,hc,c,QX,QG,Q4,F.f221R,F.f221K]
theorem QfV (f:Fr) (hf:FOk f) (a:List Tm) (ha:a.length < 1000000) (hma: ∀x∈a,x.mass < big):
  ∀(t:Tm) (bs:List (List AV)) (o:Bool),t.mass < 1000000→call F.tb 221 [.agg (Qq f),.sl o 4 (encTs a),.agg (Qa t)] bs=some (.int .i64 (frE f.t a (QY t)),bs):=by
 refine Zh (P:=fun t=>∀(bs:List (List AV)) (o:Bool),t.mass < 1000000→call F.tb 221 [.agg (Qq f),.sl o 4 (encTs a),.agg (Qa t)] bs=some (.int .i64 (frE f.t a (QY t)),bs)) ?_
 intro k n s ks ih bs o hm
 have hb: (Tm.mk k n s ks).mass < big:=by unfold big;omega
 have hme:=Qo (.mk k n s ks)
 simp only[QJ,Q3]at hme
 have h1:=E9 f hf (.mk k n s ks) hb bs
 have h2:=PO (.mk k n s ks) bs hm
 have h3:=fun o=>E6 a (.mk k n s ks) o bs ha hma hb
 have h4:=QfX n bs
 have hl:=fun ρ=>CY f a (.mk k n s ks) bs hm (fun x hx bs o=>ih x hx bs o (by have h1:x.mass≤massL ks:=Qz hx;omega)) ks [] ρ false rfl
 simp only[QJ]at hl
 have e:frE f.t a (QY (.mk k n s ks))=if Xv f.t a (.mk k n s ks)≠0 then Xv f.t a (.mk k n s ks)else frE f.t a (allL ks):=by simp[QY,frE]
 rw[Qb F.tb_221 _ _ rfl,e]
 by_cases k1:k=1
 ·subst k1
  by_cases c:ixT (.mk 1 n s ks) 0 f.t < 0
  ·have e2:Xv f.t a (.mk 1 n s ks)=13:=by simp[Xv,c]
   rw[e2]
   simp[F.f221B,F.f221C,F.f221R,F.f221K,QX,QG,Q4,h1,c]
  ·have e2:Xv f.t a (.mk 1 n s ks)=0:=by simp[Xv,c]
   rw[e2]
   simp[F.f221B,F.f221C,QX,QG,Q4,h1,c]
   apply hl <;> simp
 ·by_cases k2:k=2
  ·subst k2
   by_cases c:Yh (.mk 2 n s ks)=true
   ·have e2:Xv f.t a (.mk 2 n s ks)=0:=by simp[Xv,c]
    rw[e2]
    simp[F.f221B,F.f221C,QX,QG,Q4,h2,c]
    apply hl <;> simp
   ·by_cases d:a.any (eqB (.mk 2 n s ks))=true
    ·have e2:Xv f.t a (.mk 2 n s ks)=0:=by simp[Xv,c,d,-List.any_eq_true]
     rw[e2]
     simp[F.f221B,F.f221C,QX,QG,Q4,h2,h3,c,d,-List.any_eq_true,-List.any_eq_false]
     apply hl <;> simp
    ·have e2:Xv f.t a (.mk 2 n s ks)=13:=by simp[Xv,c,d,-List.any_eq_true]
     rw[e2]
     simp[F.f221B,F.f221C,F.f221R,F.f221K,QX,QG,Q4,h2,h3,c,d,-List.any_eq_true,-List.any_eq_false]
  ·cases c:VF n
   ·have e2:Xv f.t a (.mk k n s ks)=0:=by simp[Xv,c,k1,k2]
    rw[e2]
    simp[F.f221B,F.f221C,QX,QG,Q4,h4,c,k1,k2]
    apply hl <;> simp
   ·have e2:Xv f.t a (.mk k n s ks)=10:=by simp[Xv,c,k1,k2]
    rw[e2]
    simp[F.f221B,F.f221C,F.f221R,F.f221K,QX,QG,Q4,h4,c,k1,k2]
def U6 (f:Fr) (r:Tm):Int:=if Za f≠0 then Za f else if thV r≠0 then thV r else frE f.t (Zt f) (QY r)
theorem Lv {f:Fr} (hM:massL f.t < 1000000): ∀x∈Zt f,x.mass < 1000000:=fun x hx=>by
 unfold Zt at hx
 rw[Wz,ST]at hx
 simp at hx
 have:=P7 hx.1;omega
theorem QfU (f:Fr) (hf:FOk f) (hM:massL f.t < 1000000) (r:Tm) (hr:r.mass < 1000000) (bs:List (List AV)):call F.tb 220 [.agg (Qq f),.agg (Qa r)] bs=some (.int .i64 (U6 f r),bs):=by
 have h1:=KE f bs hf
 have h2:=W5 r bs (by unfold big;omega)
 have h3:=E5 f hf hM bs
 have hn:=nodesL_le_mass f.t
 have hfl:=SL f
 have h4:=fun o=>QfV f hf (Zt f) (by omega) (fun x hx=>by have:=Lv hM x hx;unfold big;omega) r bs o hr
 rw[Qb F.tb_220 _ _ rfl]
 unfold U6
 by_cases c1:Za f=0
 ·by_cases c2:thV r=0
  ·simp[F.f220B,F.f220C,F.f220R,F.f220K,QX,QG,Q4,h1,h2,h3,h4,c1,c2]
  ·simp[F.f220B,F.f220C,F.f220R,F.f220K,QX,QG,Q4,h1,h2,c1,c2]
 ·simp[F.f220B,F.f220C,F.f220R,F.f220K,QX,QG,Q4,h1,c1]
end Go.Am
namespace Go.Am
set_option maxRecDepth 8000
mutual
def Z3 (f:List Tm):Tm→Tm
 | .mk k n s ks=>if k=1 then(match VM (.mk k n s ks) 0 f with
  | some p=>p.2
  | none=> .mk k n s ks)else .mk k n s (putL f ks)
def putL (f:List Tm):List Tm→List Tm
 | []=>[]
 | t:: ts=>Z3 f t:: putL f ts
end
theorem Fd (f:List Tm): ∀l:List Tm,(putL f l).length=l.length
 | []=>rfl
 | t:: ts=>by simp[putL,Fd f ts]
theorem MH {x:Tm}: ∀{l:List Tm} {k:Nat} {p:Nat×Tm},VM x k l=some p→k≤p.1∧l[p.1 - k]? =some p.2
 | [],k,p,h=>by simp[VM]at h
 | t:: ts,k,p,h=>by
  simp only[VM]at h
  split at h
  ·injection h with h;subst h;simp
  ·obtain⟨h1,h2⟩:=MH h
   refine⟨by omega,?_⟩
   obtain⟨m,hm⟩: ∃m,p.1 - k=m+1:=⟨p.1 - k - 1,by omega⟩
   rw[hm,List.getElem?_cons_succ,← h2]
   congr 1;omega
theorem Oj {x:Tm} {l:List Tm} {k:Nat} {p:Nat×Tm} (h:VM x k l=some p):p.2∈l:=List.mem_of_getElem? (MH h).2
def H5 (f:List Tm) (r:Tm):Prop:=∀x∈QY r,x.kind=1→VM x 0 f≠none
theorem Qfy {f:List Tm} {k:Int} {n:List UInt8} {s:Int} {ks:List Tm} (h:H5 f (.mk k n s ks)) {x:Tm} (hx:x∈ks):H5 f x:=fun y hy=>h y (by
 simp only[QY]
 refine List.mem_cons_of_mem _ ?_
 clear h
 induction ks with
 | nil=>cases hx
 | cons z zs ih=>
  simp only[allL,List.mem_append]
  rcases List.mem_cons.1 hx with rfl | hx
  ·exact .inl hy
  ·exact .inr (ih hx))
theorem QdN (f:Fr) (t:Tm) (bs:List (List AV)) (hm:t.mass < 1000000) (ih: ∀x∈t.kids,∀bs:List (List AV),call F.tb 225 [.agg (Qq f),.agg (Qa x)] bs=some (.agg (Qa (Z3 f.t x)),bs)):
  ∀(post pre us:List Tm) (ρ:Nat→AV),t.kids=pre ++ post→us.length=pre.length→ρ 2= .bx (Qq f)→ρ 4= .bx [.int .i64 0,.str [],.int .i64 0,.sl true 4 []]→
   ρ 5= .bx [.int .i64 t.kind,.str t.name,.int .i64 t.sort,.sl true 4 (encTs us)]→ρ 27= .sl false 4 (encTs t.kids)→ρ 28= .int .i64 t.kids.length→ρ 29= .int .i64 pre.length→
  R F.tb (.loop F.f225l0) ρ bs (Qk 0 (Qv F.tb F.f225r0 (Qx F.f225 bs)))=some (.agg (Qa (.mk t.kind t.name t.sort (us ++ putL f.t post))),bs):=by
 have hme:=Qo t
 intro post
 induction post with
 | nil=>
  intro pre us ρ hk hl h2 h4 h5 h27 h28 h29
  simp only[List.append_nil]at hk
  rw[← hk]at h29
  rw[Qc F.f225l0.eq_1]
  simp[h2,h4,h5,h27,h28,h29,F.f225r0,F.f225R,F.f225K,putL]
  simp[Qa]
 | cons x post IH=>
  intro pre us ρ hk hl h2 h4 h5 h27 h28 h29
  have hg2:=Qp hk
  have hll:t.kids.length=pre.length+ (post.length+1):=by rw[hk];simp
  have hw1:IntKind.i64.wrap ((pre.length:Int)+1)=(pre.length:Int)+1:=Ql (by omega) (by omega)
  have hlt: (pre.length:Int) < (t.kids.length:Int):=by omega
  have hc:=ih x (by rw[hk];simp) bs
  have hb: (us.length+1)*56≤140737488355328:=Yr (by omega)
  have hi:=fun ρ=>IH (pre ++ [x]) (us ++ [Z3 f.t x]) ρ (by rw[hk];simp) (by simp[hl])
  have e:us ++ putL f.t (x:: post)=us ++ [Z3 f.t x]++ putL f.t post:=by simp[putL]
  rw[Qc F.f225l0.eq_1,e]
  simp[h2,h4,h5,h27,h28,h29,hg2,hlt,hw1,hc,hb,QX,QG,Q4,Zb,QQ,-List.append_assoc]
  apply hi <;> simp[h2,h4,h27,h28]
theorem QfY (f:Fr) (hf:FOk f): ∀(r:Tm) (bs:List (List AV)),r.mass < 1000000→H5 f.t r→call F.tb 225 [.agg (Qq f),.agg (Qa r)] bs=some (.agg (Qa (Z3 f.t r)),bs):=by
 refine Zh (P:=fun r=>∀(bs:List (List AV)),r.mass < 1000000→H5 f.t r→call F.tb 225 [.agg (Qq f),.agg (Qa r)] bs=some (.agg (Qa (Z3 f.t r)),bs)) ?_
 intro k n s ks ih bs hm hb
 have hme:=Qo (.mk k n s ks)
 simp only[QJ,Q3]at hme
 rw[Qb F.tb_225 _ _ rfl]
 by_cases k1:k=1
 ·subst k1
  have h1:=E9 f hf (.mk 1 n s ks) (by unfold big;omega) bs
  obtain⟨p,hp⟩: ∃p,VM (.mk 1 n s ks) 0 f.t=some p:=by
   cases hx:VM (.mk 1 n s ks) 0 f.t with
   | none=>exact absurd hx (hb _ (by simp[QY]) rfl)
   | some p=>exact⟨p,rfl⟩
  have hix:ixT (.mk 1 n s ks) 0 f.t=p.1:=by simp[ixT,hp]
  rw[hix]at h1
  have hg:=(MH hp).2
  simp only[Nat.sub_zero]at hg
  have hlt:=(List.getElem?_eq_some_iff.1 hg).1
  have h2:=E4 p.2 bs (by have:=hf.t p.2 (Oj hp);unfold big;omega)
  have e:Z3 f.t (.mk 1 n s ks)=p.2:=by simp[Z3,hp]
  rw[e]
  have hte:Qq f=[.sl false 4 (encTs f.s),.sl false 4 (encTs f.t)]:=rfl
  rw[hte]at h1 ⊢
  have hgi: (encTs f.t)[p.1]'(by rw[XJ];exact hlt)=Qa p.2:=by
   have h3: (encTs f.t)[p.1]? =some (Qa p.2):=by simp[hg]
   exact(List.getElem?_eq_some_iff.1 h3).2
  simp[F.f225B,F.f225C,F.f225R,F.f225K,h1,hg,hlt,h2,hgi]
 ·have hl:=fun ρ=>QdN f (.mk k n s ks) bs hm (fun x hx bs=>ih x hx bs (by have h1:x.mass≤massL ks:=Qz hx;omega) (Qfy hb hx)) ks [] [] ρ rfl rfl
  have e:Z3 f.t (.mk k n s ks)= .mk k n s ([]++ putL f.t ks):=by simp[Z3,k1]
  rw[e]
  simp only[Q3,QJ,Xi,WT]at hl
  simp[F.f225B,F.f225C,k1]
  apply hl <;> simp[encTs,QG]
theorem QcL (l:List Tm) (g:Nat) (cs:List AV) (p:Tm→Bool) (bs:List (List AV)) (hl:l.length < 1000000) (hcs: ∀x∈cs,x.ok=true) (hp: ∀x∈l,call F.tb g (.agg (Qa x):: cs) bs=some (.bool (p x),bs)):
  ∀(post pre:List Tm) (o:Bool) (ρ:Nat→AV),l=pre ++ post→pre.any p=false→ρ 0= .sl o 4 (encTs l)→ρ 1= .fn g cs→ρ 7= .int .i64 l.length→ρ 8= .int .i64 pre.length→
  U4 (l.any p) bs (R F.tb (.loop F.f215l0) ρ bs (Qk 0 (Qv F.tb F.f215r0 (Qx F.f215 bs)))):=by
 intro post
 induction post with
 | nil=>
  intro pre o ρ hk hpp h0 h1 h7 h8
  simp only[List.append_nil]at hk
  rw[← hk]at h8 hpp
  rw[Qc F.f215l0.eq_1]
  refine⟨-1,?_,by rw[hpp];simp⟩
  simp[h0,h1,h7,h8,F.f215r0,F.f215R,F.f215K]
 | cons x post IH=>
  intro pre o ρ hk hpp h0 h1 h7 h8
  have hgt:=Qp hk
  have hll:l.length=pre.length+ (post.length+1):=by rw[hk];simp
  have hw1:IntKind.i64.wrap ((pre.length:Int)+1)=(pre.length:Int)+1:=Ql (by omega) (by omega)
  have hlt: (pre.length:Int) < (l.length:Int):=by omega
  have hcall:=hp x (by rw[hk];simp)
  have hcs2: (∀(x:AV),x∈cs→x.ok=true)=True:=eq_true hcs
  have ih:=fun ρ hpp=>IH (pre ++ [x]) o ρ (by rw[hk];simp) hpp
  rw[Qc F.f215l0.eq_1]
  cases ho:p x
  ·have ih2:=fun ρ=>ih ρ (by rw[List.any_append,hpp];simp[ho])
   simp[h0,h1,h7,h8,hlt,hgt,hw1,hcall,hcs2,ho,-List.any_eq_false,-List.any_eq_true]
   apply ih2 <;> simp[h0,h1,h7]
  ·have hany:l.any p=true:=List.any_eq_true.2 ⟨x,by rw[hk];simp,ho⟩
   refine⟨pre.length,?_,by rw[hany];simp⟩
   simp[h0,h1,h7,h8,hlt,hgt,hcall,hcs2,ho,F.f215R,F.f215K]
theorem Mw (l:List Tm) (g:Nat) (cs:List AV) (p:Tm→Bool) (o:Bool) (bs:List (List AV)) (hl:l.length < 1000000) (hcs: ∀x∈cs,x.ok=true) (hp: ∀x∈l,call F.tb g (.agg (Qa x):: cs) bs=some (.bool (p x),bs)):
  call F.tb 214 [.sl o 4 (encTs l),.fn g cs] bs=some (.bool (l.any p),bs):=by
 have h1:=fun ρ=>QcL l g cs p bs hl hcs hp l [] false ρ rfl rfl
 have hcs2: (∀(x:AV),x∈cs→x.ok=true)=True:=eq_true hcs
 have h2:U4 (l.any p) bs (call F.tb 215 [.sl false 4 (encTs l),.fn g cs] bs):=by
  rw[Qb F.tb_215 _ _ rfl]
  simp[F.f215B,F.f215C,hcs2,-List.any_eq_false,-List.any_eq_true]
  apply h1 <;> simp
 obtain⟨i,hi,hb⟩:=h2
 rw[Qb F.tb_214 _ _ rfl]
 simp[F.f214B,F.f214C,hi,hcs2,F.f214R,F.f214K,-List.any_eq_false,-List.any_eq_true]
 cases hx:l.any p
 ·rw[hx]at hb;simp at hb;simpa using hb
 ·rw[hx]at hb;simp at hb;simpa using hb
theorem Qf0 (n:List UInt8) (bs:List (List AV)):call F.tb 227 [.str n] bs=some (.bool (Yq n),bs):=by
 rw[Qb F.tb_227 _ _ rfl]
 by_cases c1:n=FST
 ·simp[F.f227B,F.f227C,F.f227R,F.f227K,Yq,FST,SND,DEC,Q5,QT,READ,c1]
 ·by_cases c2:n=SND
  ·simp[F.f227B,F.f227C,F.f227R,F.f227K,Yq,FST,SND,DEC,Q5,QT,READ,c2]
  ·by_cases c3:n=DEC
   ·simp[F.f227B,F.f227C,F.f227R,F.f227K,Yq,FST,SND,DEC,Q5,QT,READ,c3]
   ·by_cases c4:n=Q5
    ·simp[F.f227B,F.f227C,F.f227R,F.f227K,Yq,FST,SND,DEC,Q5,QT,READ,c4]
    ·by_cases c5:n=QT
     ·simp[F.f227B,F.f227C,F.f227R,F.f227K,Yq,FST,SND,DEC,Q5,QT,READ,c5]
     ·by_cases c6:n=READ
      ·simp[F.f227B,F.f227C,F.f227R,F.f227K,Yq,FST,SND,DEC,Q5,QT,READ,c6]
      ·simp only[FST,SND,DEC,Q5,QT,READ]at c1 c2 c3 c4 c5 c6
       simp[F.f227B,F.f227C,F.f227R,F.f227K,Yq,FST,SND,DEC,Q5,QT,READ,c1,c2,c3,c4,c5,c6,Bool.or_assoc]
theorem DC: ∀l:List Tm,(l.any fun x=> !evT x)= !evL l
 | []=>rfl
 | t:: ts=>by simp only[List.any_cons,evL,DC ts,Bool.not_and]
theorem QfZ: ∀(t:Tm) (bs:List (List AV)),t.mass < 1000000→call F.tb 226 [.agg (Qa t)] bs=some (.bool (!evT t),bs):=by
 refine Zh ?_
 intro k n s ks ih bs hm
 have hme:=Qo (.mk k n s ks)
 simp only[QJ,Q3]at hme
 have h1:=Qf0 n bs
 have h2:=fun o=>Mw ks 226 [] (fun x=> !evT x) o bs (by omega) (by simp) (fun x hx=>ih x hx bs (by have h1:x.mass≤massL ks:=Qz hx;omega))
 rw[DC]at h2
 rw[Qb F.tb_226 _ _ rfl,Qbg]
 simp only[QJ]
 by_cases hk:k=3
 ·cases hd:Yq n
  ·have e:ndN (.mk k n s ks)=true:=by simp[ndN,hd]
   rw[e]
   simp[F.f226B,F.f226C,F.f226R,F.f226K,hk,hd,h1,h2]
  ·have e:ndN (.mk k n s ks)=false:=by simp[ndN,hd,hk]
   rw[e]
   simp[F.f226B,F.f226C,F.f226R,F.f226K,hk,hd,h1]
 ·have e:ndN (.mk k n s ks)=true:=by simp[ndN,hk]
  rw[e]
  simp[F.f226B,F.f226C,F.f226R,F.f226K,hk,h2]
def Wp (f:Fr) (r:Tm):Tm×Int:=
 if U6 f r≠0 then(Qy,U6 f r)else if(Zf (Z3 f.t r)).2≠0 then(Qy,(Zf (Z3 f.t r)).2)else if evT (Zf (Z3 f.t r)).1 then((Zf (Z3 f.t r)).1,0)else(Qy,11)
mutual
theorem MU {f:List Tm} {M:Nat} (hf: ∀x∈f,x.mass≤M): ∀r:Tm,(Z3 f r).mass≤r.mass+M*r.nodes
 | .mk k n s ks=>by
  simp only[Z3]
  split
  ·split
   ·rename_i p hp
    have:=hf p.2 (Oj hp)
    simp only[Tm.nodes,Nat.mul_add,Nat.mul_one];omega
   ·simp only[Tm.mass,Tm.nodes];omega
  ·have:=putL_mass hf ks
   simp only[Tm.mass,Tm.nodes,Fd,Nat.mul_add];omega
theorem putL_mass {f:List Tm} {M:Nat} (hf: ∀x∈f,x.mass≤M): ∀l:List Tm,massL (putL f l)≤massL l+M*nodesL l
 | []=>by simp[putL,massL]
 | t:: ts=>by
  have h1:=MU hf t
  have h2:=putL_mass hf ts
  simp only[putL,massL,nodesL,Nat.mul_add];omega
end
theorem DI {f a:List Tm}: ∀{l:List Tm},frE f a l=0→∀x∈l,Xv f a x=0
 | [],_,x,hx=>by cases hx
 | y:: l,h,x,hx=>by
  simp only[frE]at h
  by_cases c:Xv f a y=0
  ·rw[if_neg (by simpa using c)]at h
   rcases List.mem_cons.1 hx with rfl | hx
   ·exact c
   ·exact DI h x hx
  ·rw[if_pos c]at h
   exact absurd h c
theorem DW {f:Fr} {r:Tm} (h:U6 f r=0):Za f=0∧thV r=0∧frE f.t (Zt f) (QY r)=0∧H5 f.t r:=by
 unfold U6 at h
 by_cases c1:Za f=0
 ·rw[if_neg (by simpa using c1)]at h
  by_cases c2:thV r=0
  ·rw[if_neg (by simpa using c2)]at h
   refine⟨c1,c2,h,fun x hx hk=> ?_⟩
   have h3:=DI h x hx
   simp only[Xv,hk,if_true]at h3
   intro e
   simp[ixT,e]at h3
  ·rw[if_pos c2]at h;exact absurd h c2
 ·rw[if_pos c1]at h;exact absurd h c1
theorem QfT (f:Fr) (hf:FOk f) (hM:massL f.t < 1000000) (r:Tm) (hr:r.mass < 1000000) (bs:List (List AV)):call F.tb 219 [.agg (Qq f),.agg (Qa r)] bs=some (QL (Wp f r),bs):=by
 have h1:=QfU f hf hM r hr bs
 have hte:Qq f=[.sl false 4 (encTs f.s),.sl false 4 (encTs f.t)]:=rfl
 rw[Qb F.tb_219 _ _ rfl]
 by_cases c1:U6 f r=0
 ·obtain⟨v1,v2,v3,v4⟩:=DW c1
  have h2:=QfY f hf r bs hr v4
  obtain⟨t1,t2,t3,t4,t5⟩:=ZY v2
  have hpm:=MU (f:=f.t) (M:=1000000) (fun x hx=>by have:=hf.t x hx;omega) r
  have h3:=E0 (Z3 f.t r) bs (by have:1000000*r.nodes≤1000000*400:=Nat.mul_le_mul_left _ t5;unfold big;omega)
  have hnm:=Tk (Z3 f.t r)
  have h4:=QfZ (Zf (Z3 f.t r)).1 bs (by omega)
  simp only[QL]at h3
  by_cases c2: (Zf (Z3 f.t r)).2=0
  ·cases c3:evT (Zf (Z3 f.t r)).1
   ·have e:Wp f r=(Qy,11):=by simp[Wp,c1,c2,c3]
    rw[e]
    simp[F.f219B,F.f219C,F.f219R,F.f219K,QX,QG,Q4,h1,h2,h3,h4,c1,c2,c3,QD,QA]
   ·have e:Wp f r=((Zf (Z3 f.t r)).1,0):=by simp[Wp,c1,c2,c3]
    rw[e]
    simp[F.f219B,F.f219C,F.f219R,F.f219K,QX,QG,Q4,h1,h2,h3,h4,c1,c2,c3,QD]
  ·have e:Wp f r=(Qy,(Zf (Z3 f.t r)).2):=by simp[Wp,c1,c2]
   rw[e]
   simp[F.f219B,F.f219C,F.f219R,F.f219K,QX,QG,Q4,h1,h2,h3,c1,c2,QD,QA]
 ·have e:Wp f r=(Qy,U6 f r):=by simp[Wp,c1]
  rw[e]
  simp[F.f219B,F.f219C,F.f219R,F.f219K,QX,QG,Q4,h1,c1,QD,QA]
end Go.Am
namespace Go.Am
set_option maxRecDepth 8000
theorem Qgf: ∀(n:Nat) (bs:List (List AV)),n < 1000000000000→call F.tb 271 [.int .i64 n] bs=some (.str (Xr n),bs):=by
 intro n
 induction n using Nat.strongRecOn with
 | ind n ih=>
  intro bs hn
  rw[Qb F.tb_271 _ _ rfl]
  by_cases h:n < 10
  ·have e1: ((n:Int) < 10):=by omega
   have e2:IntKind.i64.wrap ((n:Int)+1)=(n:Int)+1:=Ql (by omega) (by omega)
   have e3:0≤(n:Int)+1∧(n:Int)+1≤10:=by omega
   have e4: ((n:Int)+1).toNat=n+1:=by omega
   have hd:=Qc9 h
   simp[F.f271,F.f271C,e1,e2,e3,e4,Vh h]
   simpa using hd
  ·have e1: ¬((n:Int) < 10):=by omega
   have e2:IntKind.i64.wrap ((n:Int) / 10)=(n:Int) / 10:=Ql (by omega) (by omega)
   have i1: ∀bs,call F.tb 271 [.int .i64 ((n:Int) / 10)] bs=some (.str (Xr (n / 10)),bs):=fun bs=>by
    have:=ih (n / 10) (by omega) bs (by omega);simpa using this
   have i2: ∀bs,call F.tb 271 [.int .i64 ((n:Int) % 10)] bs=some (.str (Xr (n % 10)),bs):=fun bs=>by
    have:=ih (n % 10) (by omega) bs (by omega);simpa using this
   have hl:=Qc4 (n / 10)
   have hl2: (Xr (n / 10)).length+1≤9223372036854775807:=by omega
   have e3: (n:Int).tmod 10=(n:Int) % 10:=Int.tmod_eq_emod_of_nonneg (by omega)
   rw[Vh (show n % 10 < 10 by omega)]at i2
   simp[F.f271,F.f271C,e1,e2,e3,Td h,i1,i2,hl2]
theorem Qgg (n:List UInt8) (s:Int) (bs:List (List AV)):call F.tb 272 [.str n,.int .i64 s] bs=some (.agg (Qa (.mk 1 n s [])),bs):=by
 rw[Qb F.tb_272 _ _ rfl]
 simp[F.f272,F.f272C,CT]
theorem Df (i:Nat) (bs:List (List AV)) (h:i < 1000000000):call F.tb 270 [.int .i64 i] bs=some (.agg (Qa (Xe i)),bs):=by
 have h1:=Qgf i bs (by omega)
 have h4:=Uc 9 i (by omega)
 have h3:1+ (Xr i).length≤9223372036854775807:=by omega
 have h2:=Qgg (119:: Xr i) 0 bs
 rw[Qb F.tb_270 _ _ rfl]
 simp[F.f270B,F.f270C,F.f270R,F.f270K,h1,h2,h3,Xe]
def hbs:Nat→List Tm→List (List AV)
 | _,[]=>[]
 | k,t:: ts=>(Qa (Xe k)++ Qa t):: hbs (k+1) ts
theorem PX: ∀(l:List Tm) (k:Nat),(hbs k l).length=l.length
 | [],_=>rfl
 | t:: ts,k=>by simp[hbs,PX ts]
theorem QbA: ∀(l:List Tm) (k:Nat),gpfreeE (hbs k l)=true
 | [],_=>rfl
 | t:: ts,k=>by simp[hbs,gpfreeE,QbA ts,Qj]
theorem DL: ∀(l:List Tm) (k:Nat) (x:Tm),hbs k (l ++ [x])=hbs k l ++ [Qa (Xe (k+l.length))++ Qa x]
 | [],k,x=>by simp[hbs]
 | t:: ts,k,x=>by
  simp only[List.cons_append,hbs,DL ts,List.length_cons]
  rw[show k+1+ts.length=k+ (ts.length+1) by omega]
theorem DM: ∀{l:List Tm} {k i:Nat} {x:Tm},l[i]? =some x→(hbs k l)[i]? =some (Qa (Xe (k+i))++ Qa x)
 | [],_,_,_,h=>by simp at h
 | t:: ts,k,0,x,h=>by simp at h;subst h;simp[hbs]
 | t:: ts,k,i+1,x,h=>by
  simp only[List.getElem?_cons_succ]at h
  simp only[hbs,List.getElem?_cons_succ]
  rw[DM h,show k+1+i=k+ (i+1) by omega]
theorem GK (f:Fr) (hf:FOk f) (bs:List (List AV)):
  ∀(post pre:List Tm) (ρ:Nat→AV),f.t=pre ++ post→ρ 1= .bx (Qq f)→ρ 3= .sl true 8 (hbs 0 pre)→ρ 4= .int .i64 pre.length→
  R F.tb (.loop F.f269l0) ρ bs (Qk 0 (Qv F.tb F.f269r0 (Qx F.f269 bs)))=some (.sl false 8 (hbs 0 f.t),bs):=by
 have htl:=hf.tl
 have hte:Qq f=[.sl false 4 (encTs f.s),.sl false 4 (encTs f.t)]:=rfl
 intro post
 induction post with
 | nil=>
  intro pre ρ hk h1 h3 h4
  simp only[List.append_nil]at hk
  rw[← hk]at h3 h4
  rw[Qc F.f269l0.eq_1]
  simp[h1,h3,h4,hte,F.f269r0,F.f269R,F.f269K,QbA]
 | cons x post IH=>
  intro pre ρ hk h1 h3 h4
  have hg:=Qp hk
  have hll:f.t.length=pre.length+ (post.length+1):=by rw[hk];simp
  have hw1:IntKind.i64.wrap ((pre.length:Int)+1)=(pre.length:Int)+1:=Ql (by omega) (by omega)
  have hlt: (pre.length:Int) < (f.t.length:Int):=by omega
  have hc:=Df pre.length bs (by omega)
  have hb: (pre.length+1)*112≤140737488355328:=by clear hw1;omega
  have hi:=fun ρ=>IH (pre ++ [x]) ρ (by rw[hk];simp)
  simp only[DL,Nat.zero_add]at hi
  rw[Qc F.f269l0.eq_1]
  simp[h1,h3,h4,hte,hg,hlt,hw1,hc,hb,PX]
  apply hi <;> simp[h1,hte]
theorem De (f:Fr) (hf:FOk f) (bs:List (List AV)):call F.tb 269 [.agg (Qq f)] bs=some (.sl false 8 (hbs 0 f.t),bs):=by
 have h:=fun ρ=>GK f hf bs f.t [] ρ rfl
 rw[Qb F.tb_269 _ _ rfl]
 simp[F.f269B,F.f269C,QX,QG,Q4]
 apply h <;> simp[hbs]
def W7 (x:Tm) (k:Nat) (l:List Tm):Tm:=match VM x k l with
 | some p=>p.2
 | none=>x
theorem Qbu (x t:Tm) (k:Nat) (ts:List Tm):W7 x k (t:: ts)=if Qm (Xe k) x=0 then t else W7 x (k+1) ts:=by
 simp only[W7,VM]
 by_cases c:Qm (Xe k) x=0
 ·simp[c]
 ·simp[c]
theorem QcA (l:List Tm) (hl:l.length < 1000000) (x:Tm) (hx:x.mass < big) (bs:List (List AV)):
  ∀(post pre:List Tm) (o:Bool) (ρ:Nat→AV),l=pre ++ post→ρ 0= .sl o 8 (hbs 0 l)→ρ 3= .bx (Qa x)→ρ 4= .bx [.int .i64 0,.str [],.int .i64 0,.sl true 4 []]→ρ 5= .int .i64 pre.length→
  R F.tb (.loop F.f273l0) ρ bs (Qk 0 (Qv F.tb F.f273r0 (Qx F.f273 bs)))=some (.agg (Qa (W7 x pre.length post)),bs):=by
 intro post
 induction post with
 | nil=>
  intro pre o ρ hk h0 h3 h4 h5
  simp only[List.append_nil]at hk
  rw[← hk]at h5
  have e:W7 x pre.length []=x:=rfl
  rw[Qc F.f273l0.eq_1,e]
  simp[h0,h3,h4,h5,PX,F.f273r0,F.f273R,F.f273K]
 | cons y post IH=>
  intro pre o ρ hk h0 h3 h4 h5
  have hg:=DM (k:=0) (Qp hk)
  simp only[Nat.zero_add]at hg
  have hll:l.length=pre.length+ (post.length+1):=by rw[hk];simp
  have hw1:IntKind.i64.wrap ((pre.length:Int)+1)=(pre.length:Int)+1:=Ql (by omega) (by omega)
  have hlt: (pre.length:Int) < (l.length:Int):=by omega
  have hc:=Z8 (Xe pre.length) x bs (by have:=Nn pre.length (by omega);unfold big;omega) hx
  rw[Qc F.f273l0.eq_1,Qbu]
  by_cases c:Qm (Xe pre.length) x=0
  ·simp[h0,h3,h4,h5,hg,hlt,PX,hc,c,F.f273R,F.f273K]
  ·have hi:=fun ρ=>IH (pre ++ [y]) o ρ (by rw[hk];simp)
   simp only[List.length_append,List.length_singleton]at hi
   simp[h0,h3,h4,h5,hg,hlt,hw1,PX,hc,c]
   apply hi <;> simp[h0,h3,h4]
theorem Dg (l:List Tm) (hl:l.length < 1000000) (x:Tm) (hx:x.mass < big) (o:Bool) (bs:List (List AV)):call F.tb 273 [.sl o 8 (hbs 0 l),.agg (Qa x)] bs=some (.agg (Qa (W7 x 0 l)),bs):=by
 have h:=fun ρ=>QcA l hl x hx bs l [] false ρ rfl
 simp only[List.length_nil]at h
 rw[Qb F.tb_273 _ _ rfl]
 simp[F.f273B,F.f273C]
 apply h <;> simp
theorem QcF (f:List Tm) (t:Tm) (bs:List (List AV)) (hm:t.mass < 1000000) (ih: ∀x∈t.kids,∀(o:Bool) (bs:List (List AV)),call F.tb 274 [.sl o 8 (hbs 0 f),.agg (Qa x)] bs=some (.agg (Qa (Z3 f x)),bs)):
  ∀(post pre us:List Tm) (o:Bool) (ρ:Nat→AV),t.kids=pre ++ post→us.length=pre.length→ρ 0= .sl o 8 (hbs 0 f)→ρ 3= .bx (Qa t)→ρ 4= .bx [.int .i64 0,.str [],.int .i64 0,.sl true 4 []]→
   ρ 5= .bx [.int .i64 t.kind,.str t.name,.int .i64 t.sort,.sl true 4 (encTs us)]→ρ 6= .int .i64 pre.length→
  R F.tb (.loop F.f274l0) ρ bs (Qk 0 (Qv F.tb F.f274r0 (Qx F.f274 bs)))=some (.agg (Qa (.mk t.kind t.name t.sort (us ++ putL f post))),bs):=by
 have hme:=Qo t
 intro post
 induction post with
 | nil=>
  intro pre us o ρ hk hl h0 h3 h4 h5 h6
  simp only[List.append_nil]at hk
  rw[← hk]at h6
  rw[Qc F.f274l0.eq_1]
  simp[h0,h3,h4,h5,h6,F.f274r0,F.f274R,F.f274K,putL]
  simp[Qa]
 | cons x post IH=>
  intro pre us o ρ hk hl h0 h3 h4 h5 h6
  have hg2:=Qp hk
  have hll:t.kids.length=pre.length+ (post.length+1):=by rw[hk];simp
  have hw1:IntKind.i64.wrap ((pre.length:Int)+1)=(pre.length:Int)+1:=Ql (by omega) (by omega)
  have hlt: (pre.length:Int) < (t.kids.length:Int):=by omega
  have hc:=fun o=>ih x (by rw[hk];simp) o bs
  have hb: (us.length+1)*56≤140737488355328:=Yr (by omega)
  have hi:=fun ρ=>IH (pre ++ [x]) (us ++ [Z3 f x]) o ρ (by rw[hk];simp) (by simp[hl])
  have e:us ++ putL f (x:: post)=us ++ [Z3 f x]++ putL f post:=by simp[putL]
  rw[Qc F.f274l0.eq_1,e]
  simp[h0,h3,h4,h5,h6,hg2,hlt,hw1,hc,hb,Zb,QQ,-List.append_assoc]
  apply hi <;> simp[h0,h3,h4]
theorem Qgh (f:List Tm) (hf:f.length < 1000000): ∀(r:Tm) (o:Bool) (bs:List (List AV)),r.mass < 1000000→call F.tb 274 [.sl o 8 (hbs 0 f),.agg (Qa r)] bs=some (.agg (Qa (Z3 f r)),bs):=by
 refine Zh (P:=fun r=>∀(o:Bool) (bs:List (List AV)),r.mass < 1000000→call F.tb 274 [.sl o 8 (hbs 0 f),.agg (Qa r)] bs=some (.agg (Qa (Z3 f r)),bs)) ?_
 intro k n s ks ih o bs hm
 have hme:=Qo (.mk k n s ks)
 simp only[QJ,Q3]at hme
 rw[Qb F.tb_274 _ _ rfl]
 by_cases k1:k=1
 ·subst k1
  have h1:=fun o=>Dg f hf (.mk 1 n s ks) (by unfold big;omega) o bs
  have e:Z3 f (.mk 1 n s ks)=W7 (.mk 1 n s ks) 0 f:=by simp only[Z3,W7,if_true] <;> cases VM (Tm.mk 1 n s ks) 0 f <;> rfl
  rw[e]
  simp[F.f274B,F.f274C,F.f274R,F.f274K,h1]
 ·have hl:=fun ρ=>QcF f (.mk k n s ks) bs hm (fun x hx o bs=>ih x hx o bs (by have h1:x.mass≤massL ks:=Qz hx;omega)) ks [] [] false ρ rfl rfl
  have e:Z3 f (.mk k n s ks)= .mk k n s ([]++ putL f ks):=by simp[Z3,k1]
  rw[e]
  simp only[Q3,QJ,Xi,WT]at hl
  simp[F.f274B,F.f274C,k1,Qj]
  apply hl <;> simp[encTs,Qj]
end Go.Am
