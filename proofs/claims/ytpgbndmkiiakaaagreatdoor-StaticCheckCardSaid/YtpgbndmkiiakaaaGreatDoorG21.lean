/-
  Rc34, Rc35, Rc36, Rc37, Rc38, Rc39, Rc40, Rc41, Rc42.
-/
import Derived.Test.YtpgbndmkiiakaaaGreatDoorG20
set_option linter.unusedVariables false
set_option linter.unusedSimpArgs false
namespace Go.Am
set_option maxRecDepth 8000
def Pk (sec acc:List Tm) (x:Tm):Bool:= !YI x && !sec.any (eqB x) && !acc.any (eqB x)
def Yx (sec:List Tm):List Tm→List Tm→List Tm
 | acc,[]=>acc
 | acc,x:: r=>Yx sec (if Pk sec acc x then acc ++ [x]else acc) r
def WP (sec:List Tm):List Tm→List Tm→List Tm
 | acc,[]=>acc
 | acc,t:: r=>WP sec (Yx sec acc (Y0 t)) r
theorem P9 (sec:List Tm): ∀(l acc:List Tm),(Yx sec acc l).length≤acc.length+l.length
 | [],acc=>by simp[Yx]
 | x:: r,acc=>by
  have h:=P9 sec r (if Pk sec acc x then acc ++ [x]else acc)
  simp only[Yx,List.length_cons]
  split at h
  ·rename_i c;simp only[c,if_true];simp only[List.length_append,List.length_singleton]at h;omega
  ·rename_i c;simp only[c];simp only[Bool.false_eq_true,if_false];omega
theorem Ks {sec:List Tm}: ∀{l acc:List Tm} {y:Tm},y∈Yx sec acc l→y∈acc∨y∈l
 | [],acc,y,h=> .inl h
 | x:: r,acc,y,h=>by
  simp only[Yx]at h
  rcases Ks h with h | h
  ·split at h
   ·rcases List.mem_append.1 h with h | h
    ·exact .inl h
    ·simp at h;exact .inr (by simp[h])
   ·exact .inl h
  ·exact .inr (by simp[h])
theorem QiD {B0 B:List (List AV)} {v:AV} {l:List Tm} (x:Tm) (o:Bool) (h:TS B0 B v l) (hl:l.length < 1000000): ∃v' B',appM 56 4 v (.sl o 4 [Qb x]) B=some (v',B')∧TS B0 B' v' (l ++ [x]):=by
 obtain⟨M,id,sz,rfl,rfl,hc⟩:=h
 have hb: (l.length+1)*56≤140737488355328:=Yn (by omega)
 have hs:Wd 4 (.sl o 4 [Qb x]) (B0 ++ M)=some (1,Qb x):=by simp[Wd]
 rcases hc with⟨rfl,rfl,rfl⟩ | ⟨rfl,hid,hne0,hbx⟩
 ·refine⟨.gs (B0 ++ M).length 0 4 1,B0 ++ (M ++ [Qb x]),?_,M ++ [Qb x],(B0 ++ M).length,4,rfl,rfl,.inr ⟨rfl,by simp,by simp,?_⟩⟩
  ·simp[appM,hs]
  ·rw[← List.append_assoc,List.getElem?_concat_length];simp[Qu,ZH]
 ·have hr: (Qu l).length=l.length*4:=Z1 QP l
  have hrow:Qu (l ++ [x])=Qu l ++ Qb x:=by simp[Qu,XZ,RY]
  have hst: (Qu l).map AV.strip=Qu l:=Yi Zz l
  have hne:Qu l≠[]:=by
   intro e;rw[e]at hr;simp at hr
   exact hne0 (List.eq_nil_of_length_eq_zero (by omega))
  have hroom: ¬(l.length+1)*4≤(Qu l).length:=by omega
  refine⟨.gs (B0 ++ M).length 0 4 (l.length+1),(B0 ++ M).set id []++ [Qu l ++ Qb x],?_,M.set (id - B0.length) []++ [Qu l ++ Qb x],(B0 ++ M).length,4,?_,by simp,.inr ⟨rfl,by simp,by simp,?_⟩⟩
  ·simp only[appM,hs,Option.bind_some]
   rw[if_pos ⟨by omega,hb⟩,if_neg (by omega),if_neg (by omega),if_pos ⟨trivial,trivial⟩,hbx]
   simp only[Option.bind_some]
   rw[if_pos ⟨hne,by omega⟩,if_neg hroom,List.take_of_length_le (by omega),hst]
  ·rw[Xo hid,List.append_assoc]
  ·have e: (B0 ++ M).length=((B0 ++ M).set id []).length:=by simp
   rw[hrow,e,List.getElem?_concat_length]
theorem Qfo (f:Fr) (hf:FOk f) (B0:List (List AV)) (A:List Tm) (hA: ∀x∈A,x.mass < 1000000) (hAl:A.length < 1000000) (c:AC) (K:Kn) (X:Out):
  ∀(post pre acc:List Tm) (B:List (List AV)) (v:AV) (o:Bool) (ρ:Nat→AV),A=pre ++ post→TS B0 B v acc→acc.length+post.length < 1000000→(∀x∈acc,x.mass < 1000000)→
   ρ 1= .bx (Qz f)→ρ 3=v→ρ 16= .sl o 4 (encTs A)→ρ 17= .int .i64 A.length→ρ 18= .int .i64 pre.length→
   (∀(ρ':Nat→AV) (B':List (List AV)) (v':AV),TS B0 B' v' (Yx f.s acc post)→ρ' 3=v'→(∀j,j < 12→j≠3→j≠7→ρ' j=ρ j)→R F.tb c ρ' B' K=X)→
  R F.tb (.loop F.f209l0) ρ B (Qk 2 (Qk 1 (Qw F.tb c K)))=X:=by
 intro post
 induction post with
 | nil=>
  intro pre acc B v o ρ hk hts hal ham h1 h3 h16 h17 h18 h
  simp only[List.append_nil]at hk
  rw[← hk]at h18
  rw[Qc F.f209l0.eq_1]
  simp[h1,h16,h17,h18]
  refine h _ B v hts ?_ ?_
  ·simp[h3]
  ·intro j hj h3j h7j
   have:j≠19:=by omega
   simp[this]
 | cons x post IH=>
  intro pre acc B v o ρ hk hts hal ham h1 h3 h16 h17 h18 h
  have hg:=Qp hk
  have hll:A.length=pre.length+ (post.length+1):=by rw[hk];simp
  have hw1:IntKind.i64.wrap ((pre.length:Int)+1)=(pre.length:Int)+1:=Qj (by omega) (by omega)
  have hlt: (pre.length:Int) < (A.length:Int):=by omega
  have hxm:=hA x (by rw[hk];simp)
  have hxb:x.mass < big:=by unfold big;omega
  simp only[List.length_cons]at hal
  have c1:=LD x B hxm
  have c2:=FQ f.s x false B hf.sl (fun y hy=>by have:=hf.s y hy;unfold big;omega) hxb
  have c3:=Qeh hts x (by omega) (fun y hy=>by have:=ham y hy;unfold big;omega) hxb
  obtain⟨id,sz,rfl⟩:=Ch hts
  have hfr: ∀(ρ2:Nat→AV) (j:Nat),j < 12→j≠3→j≠7→(∀i,ρ2 i=ρ2 i):=fun _ _ _ _ _ _=>rfl
  have hjn: ∀j:Nat,j < 12→j≠18∧j≠19∧j≠20∧j≠21∧j≠22∧j≠23∧j≠24∧j≠25∧j≠26∧j≠27∧j≠28∧j≠29∧j≠30∧j≠31∧j≠32∧j≠33∧j≠34∧j≠35∧j≠36∧j≠37∧j≠38∧j≠39∧j≠40∧j≠41∧j≠42:=fun j hj=>by omega
  rw[Qc F.f209l0.eq_1]
  cases hn:Pk f.s acc x
  ·have e:Yx f.s acc (x:: post)=Yx f.s acc post:=by simp[Yx,hn]
   have hi:=fun ρ2 h2=>IH (pre ++ [x]) acc B _ o ρ2 (by rw[hk];simp) hts (by omega) ham h2
   have key: ∀ρ2:Nat→AV,ρ2 1= .bx (Qz f)→ρ2 3= .gs id 0 sz acc.length→ρ2 16= .sl o 4 (encTs A)→ρ2 17= .int .i64 A.length→ρ2 18= .int .i64 ((pre ++ [x]).length:Nat)→(∀j,j < 12→j≠3→j≠7→ρ2 j=ρ j)→
     R F.tb (.loop F.f209l0) ρ2 B (Qk 2 (Qk 1 (Qw F.tb c K)))=X:=by
    intro ρ2 a1 a3 a16 a17 a18 aj
    refine hi ρ2 a1 a3 a16 a17 a18 fun ρ' B' v' t1 t2 t3=>h ρ' B' v' (by rw[e];exact t1) t2 fun j j1 j2 j3=> ?_
    rw[t3 j j1 j2 j3,aj j j1 j2 j3]
   unfold Pk at hn
   cases p1:YI x
   ·rw[p1]at c1 hn
    cases p2:f.s.any (eqB x)
    ·rw[p2]at c2 hn
     have p3:acc.any (eqB x)=true:=by simpa using hn
     rw[p3]at c3
     simp[Qz,h1,h3,h16,h17,h18,hg,hlt,hw1,c1,c2,c3]
     refine key _ ?_ ?_ ?_ ?_ ?_ ?_
     all_goals first | (intro j j1 j2 j3;have:=hjn j j1;simp[this,j3];done) | simp[Qz,h1,h3,h16,h17]
    ·rw[p2]at c2
     simp[Qz,h1,h3,h16,h17,h18,hg,hlt,hw1,c1,c2]
     refine key _ ?_ ?_ ?_ ?_ ?_ ?_
     all_goals first | (intro j j1 j2 j3;have:=hjn j j1;simp[this,j3];done) | simp[Qz,h1,h3,h16,h17]
   ·rw[p1]at c1
    simp[Qz,h1,h3,h16,h17,h18,hg,hlt,hw1,c1]
    refine key _ ?_ ?_ ?_ ?_ ?_ ?_
    all_goals first | (intro j j1 j2 j3;have:=hjn j j1;simp[this,j3];done) | simp[Qz,h1,h3,h16,h17]
  ·have e:Yx f.s acc (x:: post)=Yx f.s (acc ++ [x]) post:=by simp[Yx,hn]
   obtain⟨v2,B2,ha,hts2⟩:=QiD x false hts (by omega)
   have hi:=fun ρ2 h2=>IH (pre ++ [x]) (acc ++ [x]) B2 v2 o ρ2 (by rw[hk];simp) hts2 (by simp;omega) (fun y hy=>by
    rcases List.mem_append.1 hy with hy | hy
    ·exact ham y hy
    ·simp at hy;subst hy;exact hxm) h2
   have key: ∀ρ2:Nat→AV,ρ2 1= .bx (Qz f)→ρ2 3=v2→ρ2 16= .sl o 4 (encTs A)→ρ2 17= .int .i64 A.length→ρ2 18= .int .i64 ((pre ++ [x]).length:Nat)→(∀j,j < 12→j≠3→j≠7→ρ2 j=ρ j)→
     R F.tb (.loop F.f209l0) ρ2 B2 (Qk 2 (Qk 1 (Qw F.tb c K)))=X:=by
    intro ρ2 a1 a3 a16 a17 a18 aj
    refine hi ρ2 a1 a3 a16 a17 a18 fun ρ' B' v' t1 t2 t3=>h ρ' B' v' (by rw[e];exact t1) t2 fun j j1 j2 j3=> ?_
    rw[t3 j j1 j2 j3,aj j j1 j2 j3]
   obtain⟨id2,sz2,rfl⟩:=Ch hts2
   unfold Pk at hn
   simp only[Bool.and_eq_true,Bool.not_eq_true']at hn
   obtain⟨⟨p1,p2⟩,p3⟩:=hn
   rw[p1]at c1
   rw[p2]at c2
   rw[p3]at c3
   simp[Qz,h1,h3,h16,h17,h18,hg,hlt,hw1,c1,c2,c3,ha]
   refine key _ ?_ ?_ ?_ ?_ ?_ ?_
   all_goals first | (intro j j1 j2 j3;have:=hjn j j1;simp[this,j2,j3];done) | simp[Qz,h1,h3,h16,h17]
end Go.Am
namespace Go.Am
set_option maxRecDepth 8000
theorem N6 (t:Tm): (Y0 t).length≤t.nodes:=by
 have h1:=NO ((QR t).filter (ZK 2))
 have h2:=List.length_filter_le (ZK 2) (QR t)
 rw[Xh]at h2
 unfold Y0;omega
theorem MJ {x t:Tm}:x∈Y0 t↔x∈QR t∧x.kind=2:=by
 unfold Y0
 rw[Vg,List.mem_filter]
 simp[ZK]
theorem Gx {x t:Tm} (h:x∈Y0 t):x.mass≤t.mass:=Xb t x (MJ.1 h).1
theorem KJ (sec:List Tm): ∀(l acc:List Tm),(WP sec acc l).length≤acc.length+nodesL l
 | [],acc=>by simp[WP]
 | t:: r,acc=>by
  have h1:=KJ sec r (Yx sec acc (Y0 t))
  have h2:=P9 sec (Y0 t) acc
  have h3:=N6 t
  simp only[WP,nodesL];omega
theorem Qf7 {B0 B:List (List AV)} {v:AV} {l:List Tm} (h:TS B0 B v l) (hl:l.length < 1000000) (hm: ∀x∈l,x.mass < 1000000):
  ∃B',call F.tb 170 [v,.fn 30 []] B=some (.tup [],B')∧TS B0 B' v (ZL l):=by
 obtain⟨M,id,sz,rfl,rfl,hc⟩:=h
 rcases hc with⟨rfl,rfl,rfl⟩ | ⟨rfl,hid,hne,hb⟩
 ·refine⟨B0 ++ M,?_,M,0,0,rfl,rfl,.inl ⟨rfl,rfl,rfl⟩⟩
  rw[XK F.tb_170];simp[Pv]
 ·have hs:=Kc l (B0 ++ M) id hb (by omega) fun x hx=>by have:=hm x hx;unfold big;omega
  refine⟨_,hs,M.set (id - B0.length) (Qu (ZL l)),id,4,Xo hid _,by rw[X3],.inr ⟨rfl,hid,?_,?_⟩⟩
  ·intro e
   obtain⟨x,hx⟩:=List.exists_mem_of_ne_nil l hne
   have:=(WA (l:=l)).2 hx
   rw[e]at this;simp at this
  ·have hlt:=VH hb
   rw[List.getElem?_set,if_pos rfl,if_pos hlt]
theorem QiE {B0 B:List (List AV)} {v:AV} {l:List Tm} (h:TS B0 B v l) (n:Nat): ∃M2,∀ρ:Nat→AV,ρ n=v→Z0 {env:=ρ,bs:=B} n 4=some (.sl true 4 (encTs l),{env:=upd ρ n .undef,bs:=B0 ++ M2}):=by
 obtain⟨M,id,sz,rfl,rfl,hc⟩:=h
 rcases hc with⟨rfl,rfl,rfl⟩ | ⟨rfl,hid,hne,hb⟩
 ·exact⟨M,fun ρ hn=>by simp[Z0,hn,encTs]⟩
 ·refine⟨M.set (id - B0.length) [],fun ρ hn=> ?_⟩
  have hz: ¬l.length=0:=fun e=>hne (List.eq_nil_of_length_eq_zero e)
  have hr: (Qu l).length=l.length*4:=Z1 QP l
  have hch:ZO (Qu l) 0 4 l.length=encTs l:=by
   have:=Wc (f:=Qb) (k:=4) QP Zz l []
   rw[List.append_nil,TA]at this;exact this
  simp only[Z0,hn]
  rw[if_pos ⟨trivial,by omega⟩,if_neg hz,hb]
  simp only[Option.bind_some]
  rw[if_pos (by omega),hch,Xo hid]
  rfl
theorem Qfq {B0 B:List (List AV)} {v:AV} {l:List Tm} (h:TS B0 B v l) (hl:l.length < 1000000) (hm: ∀x∈l,x.mass < 1000000) (ρ:Nat→AV) (h3:ρ 3=v):
  R F.tb F.f209r1 ρ B (QB F.f209 B0)=some (.sl true 4 (encTs (ZL l)),B0):=by
 obtain⟨B',hs,hts⟩:=Qf7 h hl hm
 obtain⟨M2,hf⟩:=QiE hts 46
 obtain⟨id,sz,rfl⟩:=Ch h
 have hg:=encTs_gp (ZL l)
 rw[← X3 l]at hs hf h3
 simp[F.f209r1,h3,hs,hf,F.f209R,F.f209K]
theorem Qfp (f:Fr) (hf:FOk f) (B0:List (List AV)) (hM:massL f.t < 1000000):
  ∀(post pre acc:List Tm) (B:List (List AV)) (v:AV) (o:Bool) (ρ:Nat→AV),f.t=pre ++ post→TS B0 B v acc→acc.length+nodesL post < 1000000→(∀x∈acc,x.mass < 1000000)→
   ρ 1= .bx (Qz f)→ρ 3=v→ρ 9= .sl o 4 (encTs f.t)→ρ 10= .int .i64 f.t.length→ρ 11= .int .i64 pre.length→
  R F.tb (.loop F.f209l1) ρ B (Qk 0 (Qw F.tb F.f209r1 (QB F.f209 B0)))=some (.sl true 4 (encTs (ZL (WP f.s acc post))),B0):=by
 have htl:=hf.tl
 intro post
 induction post with
 | nil=>
  intro pre acc B v o ρ hk hts hal ham h1 h3 h9 h10 h11
  simp only[List.append_nil]at hk
  rw[← hk]at h11
  have hr:=Qfq hts (by simp[nodesL]at hal;omega) ham
  rw[Qc F.f209l1.eq_1]
  simp[h1,h9,h10,h11,WP]
  apply hr;simp[h3]
 | cons x post IH=>
  intro pre acc B v o ρ hk hts hal ham h1 h3 h9 h10 h11
  have hg:=Qp hk
  have hll:f.t.length=pre.length+ (post.length+1):=by rw[hk];simp
  have hw1:IntKind.i64.wrap ((pre.length:Int)+1)=(pre.length:Int)+1:=Qj (by omega) (by omega)
  have hlt: (pre.length:Int) < (f.t.length:Int):=by omega
  have hxm:=hf.t x (by rw[hk];simp)
  have hnm:=Ze x
  simp only[nodesL]at hal
  have hat:=N6 x
  have c1:=E8 x B (by omega)
  have hfl:=P9 f.s (Y0 x) acc
  have e:WP f.s acc (x:: post)=WP f.s (Yx f.s acc (Y0 x)) post:=rfl
  rw[e]
  have hAm: ∀y∈Y0 x,y.mass < 1000000:=fun y hy=>by have:=Gx hy;omega
  rw[Qc F.f209l1.eq_1]
  simp[h1,h9,h10,h11,hg,hlt,c1]
  refine Qfo f hf B0 (Y0 x) hAm (by omega) _ _ _ (Y0 x) [] acc B v true _ rfl hts (by omega) ham ?_ ?_ ?_ ?_ ?_ ?_
  ·simp[h1]
  ·simp[h3]
  ·simp
  ·simp
  ·simp
  ·intro ρ' B' v' t1 t2 t3
   have g1:ρ' 1=_:=t3 1 (by omega) (by omega) (by omega)
   have g9:ρ' 9=_:=t3 9 (by omega) (by omega) (by omega)
   have g10:ρ' 10=_:=t3 10 (by omega) (by omega) (by omega)
   have g11:ρ' 11=_:=t3 11 (by omega) (by omega) (by omega)
   simp[h1,h9,h10,h11]at g1 g9 g10 g11
   have hi:=fun ρ2=>IH (pre ++ [x]) (Yx f.s acc (Y0 x)) B' v' o ρ2 (by rw[hk];simp) t1 (by omega) (fun y hy=>by
    rcases Ks hy with hy | hy
    ·exact ham y hy
    ·exact hAm y hy)
   simp[F.f209r0,g11,hw1]
   apply hi <;> simp[g1,t2,g9,g10]
def W6 (f:Fr):List Tm:=ZL (WP f.s [] f.t)
theorem Qeg (f:Fr) (hf:FOk f) (hM:massL f.t < 1000000) (bs:List (List AV)):call F.tb 209 [.agg (Qz f)] bs=some (.sl true 4 (encTs (W6 f)),bs):=by
 have hn:=nodesL_le_mass f.t
 have h:=fun ρ=>Qfp f hf bs hM f.t [] [] bs (.gs 0 0 0 0) false ρ rfl (QiF bs) (by simp;omega) (by simp)
 rw[Qa F.tb_209 _ _ rfl]
 simp[F.f209B,F.f209C,Qz]
 apply h <;> simp[Qz]
end Go.Am
namespace Go.Am
set_option maxRecDepth 8000
def Yp (sec:List Tm) (x:Tm):Bool:=decide (x.kind=2) && !YI x && !Wx sec x
theorem EN (f:Fr) (hf:FOk f) (L:List Tm) (bs:List (List AV)) (hL:L.length < 1000000) (hm: ∀x∈L,x.mass < 1000000):
  ∀(post pre acc:List Tm) (o:Bool) (ρ:Nat→AV),L=pre ++ post→acc.length+post.length < 1000000→ρ 1= .bx (Qz f)→ρ 3= .sl true 4 (encTs acc)→ρ 4= .sl o 4 (encTs L)→ρ 5= .int .i64 pre.length→
  R F.tb (.loop F.f264l0) ρ bs (Qk 0 (Qw F.tb F.f264r0 (QB F.f264 bs)))=some (.sl false 4 (encTs (acc ++ post.filter (Yp f.s))),bs):=by
 intro post
 induction post with
 | nil=>
  intro pre acc o ρ hk ha h1 h3 h4 h5
  simp only[List.append_nil]at hk
  rw[← hk]at h5
  rw[Qc F.f264l0.eq_1]
  simp[h1,h3,h4,h5,F.f264r0,F.f264R,F.f264K]
 | cons x post IH=>
  intro pre acc o ρ hk ha h1 h3 h4 h5
  have hg:=Qp hk
  have hll:L.length=pre.length+ (post.length+1):=by rw[hk];simp
  have hw1:IntKind.i64.wrap ((pre.length:Int)+1)=(pre.length:Int)+1:=Qj (by omega) (by omega)
  have hlt: (pre.length:Int) < (L.length:Int):=by omega
  have hxm:=hm x (by rw[hk];simp)
  have c1:=LH x bs hxm
  have hsl:=hf.sl
  have c2:=Ns f.s x false bs (by omega) (fun y hy=>by have:=hf.s y hy;unfold big;omega) (by unfold big;omega)
  simp only[List.length_cons]at ha
  have hb: (acc.length+1)*56≤140737488355328:=Yn (by omega)
  have h2:=fun ρ=>IH (pre ++ [x]) acc o ρ (by rw[hk];simp) (by omega)
  have h2':=fun ρ=>IH (pre ++ [x]) (acc ++ [x]) o ρ (by rw[hk];simp) (by simp;omega)
  simp only[List.append_assoc,List.cons_append,List.nil_append]at h2'
  rw[Qc F.f264l0.eq_1]
  by_cases e1:x.kind=2
  ·cases e2:YI x
   ·cases e3:Wx f.s x
    ·have e: (x:: post).filter (Yp f.s)=x:: post.filter (Yp f.s):=by simp[Yp,e1,e2,e3]
     rw[e]
     generalize post.filter (Yp f.s)=P at *
     simp[Qz,h1,h3,h4,h5,hg,hlt,hw1,c1,c2,e1,e2,e3,hb,Q0,QS]
     apply h2' <;> simp[h1,Qz,h4]
    ·have e: (x:: post).filter (Yp f.s)=post.filter (Yp f.s):=by simp[Yp,e1,e2,e3]
     rw[e]
     generalize post.filter (Yp f.s)=P at *
     simp[Qz,h1,h3,h4,h5,hg,hlt,hw1,c1,c2,e1,e2,e3]
     apply h2 <;> simp[h1,h3,Qz,h4]
   ·have e: (x:: post).filter (Yp f.s)=post.filter (Yp f.s):=by simp[Yp,e1,e2]
    rw[e]
    generalize post.filter (Yp f.s)=P at *
    simp[Qz,h1,h3,h4,h5,hg,hlt,hw1,c1,e1,e2]
    apply h2 <;> simp[h1,h3,Qz,h4]
  ·have e: (x:: post).filter (Yp f.s)=post.filter (Yp f.s):=by simp[Yp,e1]
   rw[e]
   generalize post.filter (Yp f.s)=P at *
   simp[Qz,h1,h3,h4,h5,hg,hlt,hw1,e1]
   apply h2 <;> simp[h1,h3,Qz,h4]
theorem Nd {sec:List Tm}: ∀{l acc:List Tm},acc.Nodup→(Yx sec acc l).Nodup
 | [],acc,h=>h
 | x:: r,acc,h=>by
  simp only[Yx]
  apply Nd
  split
  ·rename_i hn
   simp only[Pk,Bool.and_eq_true,Bool.not_eq_true']at hn
   have h3:x ∉ acc:=by
    intro hx
    have:acc.any (eqB x)=true:=List.any_eq_true.2 ⟨x,hx,by simp[eqB,XA]⟩
    rw[hn.2]at this;cases this
   rw[List.nodup_append]
   exact⟨h,by simp,fun a ha b hb=>by simp at hb;subst hb;intro e;subst e;exact h3 ha⟩
  ·exact h
theorem Nf {sec:List Tm}: ∀{l acc:List Tm},acc.Nodup→(WP sec acc l).Nodup
 | [],acc,h=>h
 | t:: r,acc,h=>Nf (l:=r) (Nd h)
theorem I4 {t:Tm}: ∀{l:List Tm},Asc l→t ∉ l→Asc (Wy t l)
 | [],_,_=>OJ t
 | x:: xs,h,hn=>by
  obtain⟨h1,h2⟩:=ZT.1 h
  simp only[List.mem_cons,not_or]at hn
  simp only[Wy]
  split
  ·rename_i c
   refine ZT.2 ⟨fun y hy=> ?_,I4 h2 hn.2⟩
   rcases Tu.1 hy with rfl | hy
   ·exact c
   ·exact h1 y hy
  ·rename_i c
   have c2:Qm t x < 0:=by
    rcases R9 t x with h | h | h
    ·exact h
    ·exact absurd h hn.1
    ·exact absurd h c
   refine ZT.2 ⟨fun y hy=> ?_,h⟩
   rcases List.mem_cons.1 hy with rfl | hy
   ·exact c2
   ·exact Z8 c2 (h1 y hy)
theorem L8: ∀{l:List Tm},l.Nodup→Asc (ZL l)
 | [],_=>Asc.nil
 | t:: ts,h=>by
  obtain⟨h1,h2⟩:=List.nodup_cons.1 h
  exact I4 (L8 h2) fun hm=>h1 (WA.1 hm)
def Du (sec:List Tm) (x:Tm):Prop:=YI x=false∧Wx sec x=false
theorem HH (l:List Tm) (x:Tm):l.any (eqB x)=Wx l x:=rfl
theorem KF {sec:List Tm}: ∀{l acc:List Tm} {y:Tm},y∈Yx sec acc l↔y∈acc∨(y∈l∧Du sec y)
 | [],acc,y=>by simp[Yx]
 | x:: r,acc,y=>by
  simp only[Yx]
  rw[KF]
  cases hn:Pk sec acc x
  ·simp only[Bool.false_eq_true,if_false,List.mem_cons]
   constructor
   ·rintro(h | h)
    ·exact .inl h
    ·exact .inr ⟨.inr h.1,h.2⟩
   ·rintro(h | ⟨h | h,hf⟩)
    ·exact .inl h
    ·subst h
     left
     simp only[Pk,HH,hf.1,hf.2,Bool.not_false,Bool.true_and,Bool.not_eq_false']at hn
     exact NC.1 hn
    ·exact .inr ⟨h,hf⟩
  ·simp only[if_true,List.mem_append,List.mem_cons]
   simp only[Pk,HH,Bool.and_eq_true,Bool.not_eq_true']at hn
   constructor
   ·rintro((h | h) | h)
    ·exact .inl h
    ·simp at h;subst h;exact .inr ⟨.inl rfl,hn.1.1,hn.1.2⟩
    ·exact .inr ⟨.inr h.1,h.2⟩
   ·rintro(h | ⟨h | h,hf⟩)
    ·exact .inl (.inl h)
    ·exact .inl (.inr (by simp[h]))
    ·exact .inr ⟨h,hf⟩
theorem Oh {sec:List Tm}: ∀{l acc:List Tm} {y:Tm},y∈WP sec acc l↔y∈acc∨(y∈allL l∧y.kind=2∧Du sec y)
 | [],acc,y=>by simp[WP,allL]
 | t:: r,acc,y=>by
  simp only[WP]
  rw[Oh,KF,MJ]
  simp only[allL,List.mem_append]
  constructor
  ·rintro((h | ⟨⟨h1,h2⟩,h3⟩) | ⟨h1,h2,h3⟩)
   ·exact .inl h
   ·exact .inr ⟨.inl h1,h2,h3⟩
   ·exact .inr ⟨.inr h1,h2,h3⟩
  ·rintro(h | ⟨h1 | h1,h2,h3⟩)
   ·exact .inl (.inl h)
   ·exact .inl (.inr ⟨⟨h1,h2⟩,h3⟩)
   ·exact .inr ⟨h1,h2,h3⟩
theorem Qfn (f:Fr): (YZ (allL f.t)).filter (Yp f.s)=W6 f:=by
 refine OI (List.Pairwise.filter _ (I5 _)) (L8 (Nf List.nodup_nil)) fun x=> ?_
 rw[List.mem_filter,Vg,W6,WA,Oh]
 simp only[Yp,Du,Bool.and_eq_true,decide_eq_true_eq,Bool.not_eq_true',List.not_mem_nil,false_or]
 constructor
 ·rintro⟨h1,⟨h2,h3⟩,h4⟩;exact⟨h1,h2,h3,h4⟩
 ·rintro⟨h1,h2,h3,h4⟩;exact⟨h1,⟨h2,h3⟩,h4⟩
theorem R4 {x:Tm}: ∀{l:List Tm},x∈allL l→x.mass≤massL l
 | [],h=>by simp[allL]at h
 | t:: ts,h=>by
  simp only[allL,List.mem_append]at h
  simp only[massL]
  rcases h with h | h
  ·have:=Xb t x h;omega
  ·have:=R4 h;omega
theorem QeA (f:Fr) (hf:FOk f) (hM:massL f.t < 1000000) (bs:List (List AV)):call F.tb 264 [.agg (Qz f)] bs=some (.sl false 4 (encTs (W6 f)),bs):=by
 have hn:=nodesL_le_mass f.t
 have htl:=hf.tl
 have hs:=K1 f.t false bs (by omega) (by omega)
 have hlen:=NO (allL f.t)
 rw[allL_len]at hlen
 have h:=fun o ρ=>EN f hf (YZ (allL f.t)) bs (by omega) (fun x hx=>by have:=R4 (Vg.1 hx);omega) (YZ (allL f.t)) [] [] o ρ rfl (by simp;omega)
 rw[Qfn,List.nil_append]at h
 rw[Qa F.tb_264 _ _ rfl]
 simp[F.f264B,F.f264C,Qz,hs]
 refine h false _ ?_ ?_ ?_ ?_ <;> simp[Qz,encTs]
end Go.Am
namespace Go.Am
set_option maxRecDepth 8000
theorem Qt (f:Fr): (Qz f).take 2=Qz f:=rfl
theorem Qn (f:Fr): (Qz f).map AV.strip=Qz f:=rfl
theorem Qv (f:Fr): (Qz f).length=2:=rfl
theorem Ku (f:Fr): (W6 f).length≤nodesL f.t:=by
 unfold W6
 rw[X3]
 have:=KJ f.s f.t []
 simpa using this
theorem QbY {l:List Tm} {M:Nat} (h: ∀x∈l,x.mass≤M):massL l≤l.length*M:=by
 induction l with
 | nil=>simp[massL]
 | cons x xs ih=>
  have h1:=ih fun y hy=>h y (by simp[hy])
  have h2:=h x (by simp)
  simp only[massL,List.length_cons,Nat.succ_mul];omega
end Go.Am
namespace Go.Am
set_option maxRecDepth 8000
def Wn (i:Nat):Tm:= .mk 1 (119:: XV i) 0 []
theorem Ky (i:Nat) (h:i < 1000000000): (Wn i).mass≤100:=by
 have:=Uv 9 i (by omega)
 simp only[Wn,Tm.mass,massL,List.length_cons,List.length_nil];omega
theorem Qek (i:Nat) (bs:List (List AV)) (h:i < 1000000000):call F.tb 223 [.int .i64 i] bs=some (.agg (Qb (Wn i)),bs):=by
 have h1:=Aq i bs h
 have h2:=Uv 9 i (by omega)
 have h3:1+ (XV i).length≤9223372036854775807:=by omega
 rw[Qa F.tb_223 _ _ rfl]
 simp[F.f223,F.f223C,h1,h3,Wn,X2]
 simp[Qb,encTs]
def Vc (x:Tm):Nat→List Tm→Option (Nat×Tm)
 | _,[]=>none
 | k,t:: ts=>if Qm (Wn k) x=0 then some (k,t)else Vc x (k+1) ts
def ixT (x:Tm) (k:Nat) (l:List Tm):Int:=match Vc x k l with
 | some p=>p.1
 | none=> -1
theorem Qfv (x:Tm) (k:Nat):ixT x k []= -1:=rfl
theorem QbV (x t:Tm) (k:Nat) (ts:List Tm):ixT x k (t:: ts)=if Qm (Wn k) x=0 then(k:Int)else ixT x (k+1) ts:=by
 simp only[ixT,Vc]
 by_cases c:Qm (Wn k) x=0
 ·simp[c]
 ·simp[c]
theorem DD (f:Fr) (hf:FOk f) (x:Tm) (hx:x.mass < big) (bs:List (List AV)):
  ∀(post pre:List Tm) (ρ:Nat→AV),f.t=pre ++ post→ρ 3= .bx (Qb x)→ρ 8= .int .i64 f.t.length→ρ 9= .int .i64 pre.length→
  R F.tb (.loop F.f222l0) ρ bs (Qk 0 (Qw F.tb F.f222r0 (QB F.f222 bs)))=some (.int .i64 (ixT x pre.length post),bs):=by
 have htl:=hf.tl
 intro post
 induction post with
 | nil=>
  intro pre ρ hk h3 h8 h9
  simp only[List.append_nil]at hk
  rw[← hk]at h9
  rw[Qc F.f222l0.eq_1]
  simp[h3,h8,h9,F.f222r0,F.f222R,F.f222K,Qfv]
 | cons y post IH=>
  intro pre ρ hk h3 h8 h9
  have hll:f.t.length=pre.length+ (post.length+1):=by rw[hk];simp
  have hw1:IntKind.i64.wrap ((pre.length:Int)+1)=(pre.length:Int)+1:=Qj (by omega) (by omega)
  have hlt: (pre.length:Int) < (f.t.length:Int):=by omega
  have hc1:=Qek pre.length bs (by omega)
  have hc2:=FS (Wn pre.length) x bs (by have:=Ky pre.length (by omega);unfold big;omega) hx
  rw[Qc F.f222l0.eq_1,QbV]
  by_cases c:Qm (Wn pre.length) x=0
  ·simp[h3,h8,h9,hlt,hc1,hc2,c,F.f222R,F.f222K]
  ·have hi:=fun ρ=>IH (pre ++ [y]) ρ (by rw[hk];simp)
   simp only[List.length_append,List.length_singleton]at hi
   simp[h3,h8,h9,hlt,hc1,hc2,hw1,c]
   apply hi <;> simp[h3,h8]
theorem FU (f:Fr) (hf:FOk f) (x:Tm) (hx:x.mass < big) (bs:List (List AV)):call F.tb 222 [.agg (Qz f),.agg (Qb x)] bs=some (.int .i64 (ixT x 0 f.t),bs):=by
 have h:=fun ρ=>DD f hf x hx bs f.t [] ρ rfl
 rw[Qa F.tb_222 _ _ rfl]
 simp only[List.length_nil]at h
 simp[F.f222B,F.f222C,Qt,Qn,Qv]
 simp[Qz]
 apply h <;> simp
def SK:List UInt8:=[115,107]
def SHK:List UInt8:=[115,104,107]
def NEW:List UInt8:=[110,101,119]
def W7 (n:List UInt8):Bool:=n == SK || n == SHK || n == NEW
theorem Qel (n:List UInt8) (bs:List (List AV)):call F.tb 224 [.str n] bs=some (.bool (W7 n),bs):=by
 rw[Qa F.tb_224 _ _ rfl]
 by_cases c1:n=SK
 ·simp[F.f224B,F.f224C,F.f224R,F.f224K,W7,SK,c1]
 ·by_cases c2:n=SHK
  ·simp only[SK,SHK]at c1 c2
   simp[F.f224B,F.f224C,F.f224R,F.f224K,W7,SK,SHK,c1,c2]
  ·simp only[SK,SHK]at c1 c2
   simp[F.f224B,F.f224C,F.f224R,F.f224K,W7,SK,SHK,NEW,c1,c2]
def Y7 (f a:List Tm) (x:Tm):Int:=if x.kind=1 then(if ixT x 0 f < 0 then 13 else 0)else if x.kind=2 then(if YI x then 0 else if a.any (eqB x)then 0 else 13)else if W7 x.name then 10 else 0
def frE (f a:List Tm):List Tm→Int
 | []=>0
 | x:: xs=>if Y7 f a x≠0 then Y7 f a x else frE f a xs
theorem Eh (f a:List Tm): ∀l m:List Tm,frE f a (l ++ m)=if frE f a l≠0 then frE f a l else frE f a m
 | [],m=>by simp[frE]
 | x:: l,m=>by
  simp only[List.cons_append,frE,Eh f a l m]
  by_cases c:Y7 f a x=0
  ·simp[c]
  ·simp[c]
theorem Dv (f:Fr) (a:List Tm) (t:Tm) (bs:List (List AV)) (hm:t.mass < 1000000)
  (ih: ∀x∈t.kids,∀(bs:List (List AV)) (o:Bool),call F.tb 221 [.agg (Qz f),.sl o 4 (encTs a),.agg (Qb x)] bs=some (.int .i64 (frE f.t a (QR x)),bs)):
  ∀(post pre:List Tm) (ρ:Nat→AV) (o:Bool),t.kids=pre ++ post→ρ 1= .sl o 4 (encTs a)→ρ 3= .bx (Qz f)→ρ 33= .sl false 4 (encTs t.kids)→ρ 34= .int .i64 t.kids.length→ρ 35= .int .i64 pre.length→
  R F.tb (.loop F.f221l0) ρ bs (Qk 1 (Qw F.tb F.f221r0 (QB F.f221 bs)))=some (.int .i64 (frE f.t a (allL post)),bs):=by
 have hm2:=Qq t
 intro post
 induction post with
 | nil=>
  intro pre ρ o hk h1 h3 h33 h34 h35
  simp only[List.append_nil]at hk
  rw[← hk]at h35
  rw[Qc F.f221l0.eq_1]
  simp[h1,h3,h33,h34,h35,F.f221r0,F.f221R,F.f221K,allL,frE]
 | cons x post IH=>
  intro pre ρ o hk h1 h3 h33 h34 h35
  have hg:=Qp hk
  have hll:t.kids.length=pre.length+ (post.length+1):=by rw[hk];simp
  have hw1:IntKind.i64.wrap ((pre.length:Int)+1)=(pre.length:Int)+1:=Qj (by omega) (by omega)
  have hlt: (pre.length:Int) < (t.kids.length:Int):=by omega
  have hc:=ih x (by rw[hk];simp) bs
  rw[Qc F.f221l0.eq_1]
  simp only[allL,Eh]
  by_cases c:frE f.t a (QR x)=0
  ·have h2:=fun ρ=>IH (pre ++ [x]) ρ o (by rw[hk];simp)
   rw[if_neg (by simpa using c)]
   simp[h1,h3,h33,h34,h35,hg,hlt,hw1,hc,c,Qt,Qn,Qv]
   apply h2 <;> simp[h1,h3,h33,h34]
  ·rw[if_pos c]
   simp[h1,h3,h33,h34,h35,hg,hlt,hc,c,Qt,Qn,Qv,F.f221R,F.f221K]
theorem Qej (f:Fr) (hf:FOk f) (a:List Tm) (ha:a.length < 1000000) (hma: ∀x∈a,x.mass < big):
  ∀(t:Tm) (bs:List (List AV)) (o:Bool),t.mass < 1000000→call F.tb 221 [.agg (Qz f),.sl o 4 (encTs a),.agg (Qb t)] bs=some (.int .i64 (frE f.t a (QR t)),bs):=by
 refine Zd (P:=fun t=>∀(bs:List (List AV)) (o:Bool),t.mass < 1000000→call F.tb 221 [.agg (Qz f),.sl o 4 (encTs a),.agg (Qb t)] bs=some (.int .i64 (frE f.t a (QR t)),bs)) ?_
 intro k n s ks ih bs o hm
 have hb: (Tm.mk k n s ks).mass < big:=by unfold big;omega
 have hme:=Qq (.mk k n s ks)
 simp only[QO,Za]at hme
 have h1:=FU f hf (.mk k n s ks) hb bs
 have h2:=LD (.mk k n s ks) bs hm
 have h3:=fun o=>FQ a (.mk k n s ks) o bs ha hma hb
 have h4:=Qel n bs
 have hl:=fun ρ=>Dv f a (.mk k n s ks) bs hm (fun x hx bs o=>ih x hx bs o (by have h1:x.mass≤massL ks:=QA hx;omega)) ks [] ρ false rfl
 simp only[QO]at hl
 have e:frE f.t a (QR (.mk k n s ks))=if Y7 f.t a (.mk k n s ks)≠0 then Y7 f.t a (.mk k n s ks)else frE f.t a (allL ks):=by simp[QR,frE]
 rw[Qa F.tb_221 _ _ rfl,e]
 by_cases k1:k=1
 ·subst k1
  by_cases c:ixT (.mk 1 n s ks) 0 f.t < 0
  ·have e2:Y7 f.t a (.mk 1 n s ks)=13:=by simp[Y7,c]
   rw[e2]
   simp[F.f221B,F.f221C,F.f221R,F.f221K,Qt,Qn,Qv,h1,c]
  ·have e2:Y7 f.t a (.mk 1 n s ks)=0:=by simp[Y7,c]
   rw[e2]
   simp[F.f221B,F.f221C,Qt,Qn,Qv,h1,c]
   apply hl <;> simp
 ·by_cases k2:k=2
  ·subst k2
   by_cases c:YI (.mk 2 n s ks)=true
   ·have e2:Y7 f.t a (.mk 2 n s ks)=0:=by simp[Y7,c]
    rw[e2]
    simp[F.f221B,F.f221C,Qt,Qn,Qv,h2,c]
    apply hl <;> simp
   ·by_cases d:a.any (eqB (.mk 2 n s ks))=true
    ·have e2:Y7 f.t a (.mk 2 n s ks)=0:=by simp[Y7,c,d,-List.any_eq_true]
     rw[e2]
     simp[F.f221B,F.f221C,Qt,Qn,Qv,h2,h3,c,d,-List.any_eq_true,-List.any_eq_false]
     apply hl <;> simp
    ·have e2:Y7 f.t a (.mk 2 n s ks)=13:=by simp[Y7,c,d,-List.any_eq_true]
     rw[e2]
     simp[F.f221B,F.f221C,F.f221R,F.f221K,Qt,Qn,Qv,h2,h3,c,d,-List.any_eq_true,-List.any_eq_false]
  ·cases c:W7 n
   ·have e2:Y7 f.t a (.mk k n s ks)=0:=by simp[Y7,c,k1,k2]
    rw[e2]
    simp[F.f221B,F.f221C,Qt,Qn,Qv,h4,c,k1,k2]
    apply hl <;> simp
   ·have e2:Y7 f.t a (.mk k n s ks)=10:=by simp[Y7,c,k1,k2]
    rw[e2]
    simp[F.f221B,F.f221C,F.f221R,F.f221K,Qt,Qn,Qv,h4,c,k1,k2]
def Um (f:Fr) (r:Tm):Int:=if Zu f≠0 then Zu f else if thV r≠0 then thV r else frE f.t (W6 f) (QR r)
theorem Mn {f:Fr} (hM:massL f.t < 1000000): ∀x∈W6 f,x.mass < 1000000:=fun x hx=>by
 unfold W6 at hx
 rw[WA,Oh]at hx
 simp at hx
 have:=R4 hx.1;omega
theorem Qei (f:Fr) (hf:FOk f) (hM:massL f.t < 1000000) (r:Tm) (hr:r.mass < 1000000) (bs:List (List AV)):call F.tb 220 [.agg (Qz f),.agg (Qb r)] bs=some (.int .i64 (Um f r),bs):=by
 have h1:=OK f bs hf
 have h2:=VC r bs (by unfold big;omega)
 have h3:=Qeg f hf hM bs
 have hn:=nodesL_le_mass f.t
 have hfl:=Ku f
 have h4:=fun o=>Qej f hf (W6 f) (by omega) (fun x hx=>by have:=Mn hM x hx;unfold big;omega) r bs o hr
 rw[Qa F.tb_220 _ _ rfl]
 unfold Um
 by_cases c1:Zu f=0
 ·by_cases c2:thV r=0
  ·simp[F.f220B,F.f220C,F.f220R,F.f220K,Qt,Qn,Qv,h1,h2,h3,h4,c1,c2]
  ·simp[F.f220B,F.f220C,F.f220R,F.f220K,Qt,Qn,Qv,h1,h2,c1,c2]
 ·simp[F.f220B,F.f220C,F.f220R,F.f220K,Qt,Qn,Qv,h1,c1]
end Go.Am
namespace Go.Am
set_option maxRecDepth 8000
mutual
def ZM (f:List Tm):Tm→Tm
 | .mk k n s ks=>if k=1 then(match Vc (.mk k n s ks) 0 f with
  | some p=>p.2
  | none=> .mk k n s ks)else .mk k n s (putL f ks)
def putL (f:List Tm):List Tm→List Tm
 | []=>[]
 | t:: ts=>ZM f t:: putL f ts
end
theorem H7 (f:List Tm): ∀l:List Tm,(putL f l).length=l.length
 | []=>rfl
 | t:: ts=>by simp[putL,H7 f ts]
theorem NA {x:Tm}: ∀{l:List Tm} {k:Nat} {p:Nat×Tm},Vc x k l=some p→k≤p.1∧l[p.1 - k]? =some p.2
 | [],k,p,h=>by simp[Vc]at h
 | t:: ts,k,p,h=>by
  simp only[Vc]at h
  split at h
  ·injection h with h;subst h;simp
  ·obtain⟨h1,h2⟩:=NA h
   refine⟨by omega,?_⟩
   obtain⟨m,hm⟩: ∃m,p.1 - k=m+1:=⟨p.1 - k - 1,by omega⟩
   rw[hm,List.getElem?_cons_succ,← h2]
   congr 1;omega
theorem Ph {x:Tm} {l:List Tm} {k:Nat} {p:Nat×Tm} (h:Vc x k l=some p):p.2∈l:=List.mem_of_getElem? (NA h).2
def I6 (f:List Tm) (r:Tm):Prop:=∀x∈QR r,x.kind=1→Vc x 0 f≠none
theorem QdV {f:List Tm} {k:Int} {n:List UInt8} {s:Int} {ks:List Tm} (h:I6 f (.mk k n s ks)) {x:Tm} (hx:x∈ks):I6 f x:=fun y hy=>h y (by
 simp only[QR]
 refine List.mem_cons_of_mem _ ?_
 clear h
 induction ks with
 | nil=>cases hx
 | cons z zs ih=>
  simp only[allL,List.mem_append]
  rcases List.mem_cons.1 hx with rfl | hx
  ·exact .inl hy
  ·exact .inr (ih hx))
theorem Qb9 (f:Fr) (t:Tm) (bs:List (List AV)) (hm:t.mass < 1000000) (ih: ∀x∈t.kids,∀bs:List (List AV),call F.tb 225 [.agg (Qz f),.agg (Qb x)] bs=some (.agg (Qb (ZM f.t x)),bs)):
  ∀(post pre us:List Tm) (ρ:Nat→AV),t.kids=pre ++ post→us.length=pre.length→ρ 2= .bx (Qz f)→ρ 4= .bx [.int .i64 0,.str [],.int .i64 0,.sl true 4 []]→
   ρ 5= .bx [.int .i64 t.kind,.str t.name,.int .i64 t.sort,.sl true 4 (encTs us)]→ρ 27= .sl false 4 (encTs t.kids)→ρ 28= .int .i64 t.kids.length→ρ 29= .int .i64 pre.length→
  R F.tb (.loop F.f225l0) ρ bs (Qk 0 (Qw F.tb F.f225r0 (QB F.f225 bs)))=some (.agg (Qb (.mk t.kind t.name t.sort (us ++ putL f.t post))),bs):=by
 have hme:=Qq t
 intro post
 induction post with
 | nil=>
  intro pre us ρ hk hl h2 h4 h5 h27 h28 h29
  simp only[List.append_nil]at hk
  rw[← hk]at h29
  rw[Qc F.f225l0.eq_1]
  simp[h2,h4,h5,h27,h28,h29,F.f225r0,F.f225R,F.f225K,putL]
  simp[Qb]
 | cons x post IH=>
  intro pre us ρ hk hl h2 h4 h5 h27 h28 h29
  have hg2:=Qp hk
  have hll:t.kids.length=pre.length+ (post.length+1):=by rw[hk];simp
  have hw1:IntKind.i64.wrap ((pre.length:Int)+1)=(pre.length:Int)+1:=Qj (by omega) (by omega)
  have hlt: (pre.length:Int) < (t.kids.length:Int):=by omega
  have hc:=ih x (by rw[hk];simp) bs
  have hb: (us.length+1)*56≤140737488355328:=Yn (by omega)
  have hi:=fun ρ=>IH (pre ++ [x]) (us ++ [ZM f.t x]) ρ (by rw[hk];simp) (by simp[hl])
  have e:us ++ putL f.t (x:: post)=us ++ [ZM f.t x]++ putL f.t post:=by simp[putL]
  rw[Qc F.f225l0.eq_1,e]
  simp[h2,h4,h5,h27,h28,h29,hg2,hlt,hw1,hc,hb,Qt,Qn,Qv,Q0,QS,-List.append_assoc]
  apply hi <;> simp[h2,h4,h27,h28]
theorem Qem (f:Fr) (hf:FOk f): ∀(r:Tm) (bs:List (List AV)),r.mass < 1000000→I6 f.t r→call F.tb 225 [.agg (Qz f),.agg (Qb r)] bs=some (.agg (Qb (ZM f.t r)),bs):=by
 refine Zd (P:=fun r=>∀(bs:List (List AV)),r.mass < 1000000→I6 f.t r→call F.tb 225 [.agg (Qz f),.agg (Qb r)] bs=some (.agg (Qb (ZM f.t r)),bs)) ?_
 intro k n s ks ih bs hm hb
 have hme:=Qq (.mk k n s ks)
 simp only[QO,Za]at hme
 rw[Qa F.tb_225 _ _ rfl]
 by_cases k1:k=1
 ·subst k1
  have h1:=FU f hf (.mk 1 n s ks) (by unfold big;omega) bs
  obtain⟨p,hp⟩: ∃p,Vc (.mk 1 n s ks) 0 f.t=some p:=by
   cases hx:Vc (.mk 1 n s ks) 0 f.t with
   | none=>exact absurd hx (hb _ (by simp[QR]) rfl)
   | some p=>exact⟨p,rfl⟩
  have hix:ixT (.mk 1 n s ks) 0 f.t=p.1:=by simp[ixT,hp]
  rw[hix]at h1
  have hg:=(NA hp).2
  simp only[Nat.sub_zero]at hg
  have hlt:=(List.getElem?_eq_some_iff.1 hg).1
  have h2:=Qef p.2 bs (by have:=hf.t p.2 (Ph hp);unfold big;omega)
  have e:ZM f.t (.mk 1 n s ks)=p.2:=by simp[ZM,hp]
  rw[e]
  have hte:Qz f=[.sl false 4 (encTs f.s),.sl false 4 (encTs f.t)]:=rfl
  rw[hte]at h1 ⊢
  have hgi: (encTs f.t)[p.1]'(by rw[Xj];exact hlt)=Qb p.2:=by
   have h3: (encTs f.t)[p.1]? =some (Qb p.2):=by simp[hg]
   exact(List.getElem?_eq_some_iff.1 h3).2
  simp[F.f225B,F.f225C,F.f225R,F.f225K,h1,hg,hlt,h2,hgi]
 ·have hl:=fun ρ=>Qb9 f (.mk k n s ks) bs hm (fun x hx bs=>ih x hx bs (by have h1:x.mass≤massL ks:=QA hx;omega) (QdV hb hx)) ks [] [] ρ rfl rfl
  have e:ZM f.t (.mk k n s ks)= .mk k n s ([]++ putL f.t ks):=by simp[ZM,k1]
  rw[e]
  simp only[Za,QO,XX,WK]at hl
  simp[F.f225B,F.f225C,k1]
  apply hl <;> simp[encTs,Qn]
theorem Qba (l:List Tm) (g:Nat) (cs:List AV) (p:Tm→Bool) (bs:List (List AV)) (hl:l.length < 1000000) (hcs: ∀x∈cs,x.ok=true) (hp: ∀x∈l,call F.tb g (.agg (Qb x):: cs) bs=some (.bool (p x),bs)):
  ∀(post pre:List Tm) (o:Bool) (ρ:Nat→AV),l=pre ++ post→pre.any p=false→ρ 0= .sl o 4 (encTs l)→ρ 1= .fn g cs→ρ 7= .int .i64 l.length→ρ 8= .int .i64 pre.length→
  PH (l.any p) bs (R F.tb (.loop F.f215l0) ρ bs (Qk 0 (Qw F.tb F.f215r0 (QB F.f215 bs)))):=by
 intro post
 induction post with
 | nil=>
  intro pre o ρ hk hpp h0 h1 h7 h8
  simp only[List.append_nil]at hk
  rw[← hk]at h8 hpp
  rw[Qc F.f215l0.eq_1]
  refine⟨-1,?_,by rw[hpp];simp⟩
  simp[h0,h1,h7,h8,F.f215r0,F.f215R,F.f215K]
 | cons x post IH=>
  intro pre o ρ hk hpp h0 h1 h7 h8
  have hgt:=Qp hk
  have hll:l.length=pre.length+ (post.length+1):=by rw[hk];simp
  have hw1:IntKind.i64.wrap ((pre.length:Int)+1)=(pre.length:Int)+1:=Qj (by omega) (by omega)
  have hlt: (pre.length:Int) < (l.length:Int):=by omega
  have hcall:=hp x (by rw[hk];simp)
  have hcs2: (∀(x:AV),x∈cs→x.ok=true)=True:=eq_true hcs
  have ih:=fun ρ hpp=>IH (pre ++ [x]) o ρ (by rw[hk];simp) hpp
  rw[Qc F.f215l0.eq_1]
  cases ho:p x
  ·have ih2:=fun ρ=>ih ρ (by rw[List.any_append,hpp];simp[ho])
   simp[h0,h1,h7,h8,hlt,hgt,hw1,hcall,hcs2,ho,-List.any_eq_false,-List.any_eq_true]
   apply ih2 <;> simp[h0,h1,h7]
  ·have hany:l.any p=true:=List.any_eq_true.2 ⟨x,by rw[hk];simp,ho⟩
   refine⟨pre.length,?_,by rw[hany];simp⟩
   simp[h0,h1,h7,h8,hlt,hgt,hcall,hcs2,ho,F.f215R,F.f215K]
theorem Np (l:List Tm) (g:Nat) (cs:List AV) (p:Tm→Bool) (o:Bool) (bs:List (List AV)) (hl:l.length < 1000000) (hcs: ∀x∈cs,x.ok=true) (hp: ∀x∈l,call F.tb g (.agg (Qb x):: cs) bs=some (.bool (p x),bs)):
  call F.tb 214 [.sl o 4 (encTs l),.fn g cs] bs=some (.bool (l.any p),bs):=by
 have h1:=fun ρ=>Qba l g cs p bs hl hcs hp l [] false ρ rfl rfl
 have hcs2: (∀(x:AV),x∈cs→x.ok=true)=True:=eq_true hcs
 have h2:PH (l.any p) bs (call F.tb 215 [.sl false 4 (encTs l),.fn g cs] bs):=by
  rw[Qa F.tb_215 _ _ rfl]
  simp[F.f215B,F.f215C,hcs2,-List.any_eq_false,-List.any_eq_true]
  apply h1 <;> simp
 obtain⟨i,hi,hb⟩:=h2
 rw[Qa F.tb_214 _ _ rfl]
 simp[F.f214B,F.f214C,hi,hcs2,F.f214R,F.f214K,-List.any_eq_false,-List.any_eq_true]
 cases hx:l.any p
 ·rw[hx]at hb;simp at hb;simpa using hb
 ·rw[hx]at hb;simp at hb;simpa using hb
theorem Qeo (n:List UInt8) (bs:List (List AV)):call F.tb 227 [.str n] bs=some (.bool (Z7 n),bs):=by
 rw[Qa F.tb_227 _ _ rfl]
 by_cases c1:n=FST
 ·simp[F.f227B,F.f227C,F.f227R,F.f227K,Z7,FST,SND,DEC,Q1,Zf,READ,c1]
 ·by_cases c2:n=SND
  ·simp[F.f227B,F.f227C,F.f227R,F.f227K,Z7,FST,SND,DEC,Q1,Zf,READ,c2]
  ·by_cases c3:n=DEC
   ·simp[F.f227B,F.f227C,F.f227R,F.f227K,Z7,FST,SND,DEC,Q1,Zf,READ,c3]
   ·by_cases c4:n=Q1
    ·simp[F.f227B,F.f227C,F.f227R,F.f227K,Z7,FST,SND,DEC,Q1,Zf,READ,c4]
    ·by_cases c5:n=Zf
     ·simp[F.f227B,F.f227C,F.f227R,F.f227K,Z7,FST,SND,DEC,Q1,Zf,READ,c5]
     ·by_cases c6:n=READ
      ·simp[F.f227B,F.f227C,F.f227R,F.f227K,Z7,FST,SND,DEC,Q1,Zf,READ,c6]
      ·simp only[FST,SND,DEC,Q1,Zf,READ]at c1 c2 c3 c4 c5 c6
       simp[F.f227B,F.f227C,F.f227R,F.f227K,Z7,FST,SND,DEC,Q1,Zf,READ,c1,c2,c3,c4,c5,c6,Bool.or_assoc]
theorem Ed: ∀l:List Tm,(l.any fun x=> !evT x)= !evL l
 | []=>rfl
 | t:: ts=>by simp only[List.any_cons,evL,Ed ts,Bool.not_and]
theorem Qen: ∀(t:Tm) (bs:List (List AV)),t.mass < 1000000→call F.tb 226 [.agg (Qb t)] bs=some (.bool (!evT t),bs):=by
 refine Zd ?_
 intro k n s ks ih bs hm
 have hme:=Qq (.mk k n s ks)
 simp only[QO,Za]at hme
 have h1:=Qeo n bs
 have h2:=fun o=>Np ks 226 [] (fun x=> !evT x) o bs (by omega) (by simp) (fun x hx=>ih x hx bs (by have h1:x.mass≤massL ks:=QA hx;omega))
 rw[Ed]at h2
 rw[Qa F.tb_226 _ _ rfl,AF]
 simp only[QO]
 by_cases hk:k=3
 ·cases hd:Z7 n
  ·have e:ndN (.mk k n s ks)=true:=by simp[ndN,hd]
   rw[e]
   simp[F.f226B,F.f226C,F.f226R,F.f226K,hk,hd,h1,h2]
  ·have e:ndN (.mk k n s ks)=false:=by simp[ndN,hd,hk]
   rw[e]
   simp[F.f226B,F.f226C,F.f226R,F.f226K,hk,hd,h1]
 ·have e:ndN (.mk k n s ks)=true:=by simp[ndN,hk]
  rw[e]
  simp[F.f226B,F.f226C,F.f226R,F.f226K,hk,h2]
def Zb (f:Fr) (r:Tm):Tm×Int:=
 if Um f r≠0 then(QC,Um f r)else if(QX (ZM f.t r)).2≠0 then(QC,(QX (ZM f.t r)).2)else if evT (QX (ZM f.t r)).1 then((QX (ZM f.t r)).1,0)else(QC,11)
mutual
theorem NJ {f:List Tm} {M:Nat} (hf: ∀x∈f,x.mass≤M): ∀r:Tm,(ZM f r).mass≤r.mass+M*r.nodes
 | .mk k n s ks=>by
  simp only[ZM]
  split
  ·split
   ·rename_i p hp
    have:=hf p.2 (Ph hp)
    simp only[Tm.nodes,Nat.mul_add,Nat.mul_one];omega
   ·simp only[Tm.mass,Tm.nodes];omega
  ·have:=putL_mass hf ks
   simp only[Tm.mass,Tm.nodes,H7,Nat.mul_add];omega
theorem putL_mass {f:List Tm} {M:Nat} (hf: ∀x∈f,x.mass≤M): ∀l:List Tm,massL (putL f l)≤massL l+M*nodesL l
 | []=>by simp[putL,massL]
 | t:: ts=>by
  have h1:=NJ hf t
  have h2:=putL_mass hf ts
  simp only[putL,massL,nodesL,Nat.mul_add];omega
end
theorem Ei {f a:List Tm}: ∀{l:List Tm},frE f a l=0→∀x∈l,Y7 f a x=0
 | [],_,x,hx=>by cases hx
 | y:: l,h,x,hx=>by
  simp only[frE]at h
  by_cases c:Y7 f a y=0
  ·rw[if_neg (by simpa using c)]at h
   rcases List.mem_cons.1 hx with rfl | hx
   ·exact c
   ·exact Ei h x hx
  ·rw[if_pos c]at h
   exact absurd h c
theorem Ev {f:Fr} {r:Tm} (h:Um f r=0):Zu f=0∧thV r=0∧frE f.t (W6 f) (QR r)=0∧I6 f.t r:=by
 unfold Um at h
 by_cases c1:Zu f=0
 ·rw[if_neg (by simpa using c1)]at h
  by_cases c2:thV r=0
  ·rw[if_neg (by simpa using c2)]at h
   refine⟨c1,c2,h,fun x hx hk=> ?_⟩
   have h3:=Ei h x hx
   simp only[Y7,hk,if_true]at h3
   intro e
   simp[ixT,e]at h3
  ·rw[if_pos c2]at h;exact absurd h c2
 ·rw[if_pos c1]at h;exact absurd h c1
theorem FT (f:Fr) (hf:FOk f) (hM:massL f.t < 1000000) (r:Tm) (hr:r.mass < 1000000) (bs:List (List AV)):call F.tb 219 [.agg (Qz f),.agg (Qb r)] bs=some (QN (Zb f r),bs):=by
 have h1:=Qei f hf hM r hr bs
 have hte:Qz f=[.sl false 4 (encTs f.s),.sl false 4 (encTs f.t)]:=rfl
 rw[Qa F.tb_219 _ _ rfl]
 by_cases c1:Um f r=0
 ·obtain⟨v1,v2,v3,v4⟩:=Ev c1
  have h2:=Qem f hf r bs hr v4
  obtain⟨t1,t2,t3,t4,t5⟩:=RZ v2
  have hpm:=NJ (f:=f.t) (M:=1000000) (fun x hx=>by have:=hf.t x hx;omega) r
  have h3:=FN (ZM f.t r) bs (by have:1000000*r.nodes≤1000000*400:=Nat.mul_le_mul_left _ t5;unfold big;omega)
  have hnm:=WL (ZM f.t r)
  have h4:=Qen (QX (ZM f.t r)).1 bs (by omega)
  simp only[QN]at h3
  by_cases c2: (QX (ZM f.t r)).2=0
  ·cases c3:evT (QX (ZM f.t r)).1
   ·have e:Zb f r=(QC,11):=by simp[Zb,c1,c2,c3]
    rw[e]
    simp[F.f219B,F.f219C,F.f219R,F.f219K,Qt,Qn,Qv,h1,h2,h3,h4,c1,c2,c3,QH,QE]
   ·have e:Zb f r=((QX (ZM f.t r)).1,0):=by simp[Zb,c1,c2,c3]
    rw[e]
    simp[F.f219B,F.f219C,F.f219R,F.f219K,Qt,Qn,Qv,h1,h2,h3,h4,c1,c2,c3,QH]
  ·have e:Zb f r=(QC,(QX (ZM f.t r)).2):=by simp[Zb,c1,c2]
   rw[e]
   simp[F.f219B,F.f219C,F.f219R,F.f219K,Qt,Qn,Qv,h1,h2,h3,c1,c2,QH,QE]
 ·have e:Zb f r=(QC,Um f r):=by simp[Zb,c1]
  rw[e]
  simp[F.f219B,F.f219C,F.f219R,F.f219K,Qt,Qn,Qv,h1,c1,QH,QE]
end Go.Am
namespace Go.Am
set_option maxRecDepth 8000
theorem QeD: ∀(n:Nat) (bs:List (List AV)),n < 1000000000000→call F.tb 271 [.int .i64 n] bs=some (.str (XV n),bs):=by
 intro n
 induction n using Nat.strongRecOn with
 | ind n ih=>
  intro bs hn
  rw[Qa F.tb_271 _ _ rfl]
  by_cases h:n < 10
  ·have e1: ((n:Int) < 10):=by omega
   have e2:IntKind.i64.wrap ((n:Int)+1)=(n:Int)+1:=Qj (by omega) (by omega)
   have e3:0≤(n:Int)+1∧(n:Int)+1≤10:=by omega
   have e4: ((n:Int)+1).toNat=n+1:=by omega
   have hd:=Qbx h
   simp[F.f271,F.f271C,e1,e2,e3,e4,WH h]
   simpa using hd
  ·have e1: ¬((n:Int) < 10):=by omega
   have e2:IntKind.i64.wrap ((n:Int) / 10)=(n:Int) / 10:=Qj (by omega) (by omega)
   have i1: ∀bs,call F.tb 271 [.int .i64 ((n:Int) / 10)] bs=some (.str (XV (n / 10)),bs):=fun bs=>by
    have:=ih (n / 10) (by omega) bs (by omega);simpa using this
   have i2: ∀bs,call F.tb 271 [.int .i64 ((n:Int) % 10)] bs=some (.str (XV (n % 10)),bs):=fun bs=>by
    have:=ih (n % 10) (by omega) bs (by omega);simpa using this
   have hl:=Qbs (n / 10)
   have hl2: (XV (n / 10)).length+1≤9223372036854775807:=by omega
   have e3: (n:Int).tmod 10=(n:Int) % 10:=Int.tmod_eq_emod_of_nonneg (by omega)
   rw[WH (show n % 10 < 10 by omega)]at i2
   simp[F.f271,F.f271C,e1,e2,e3,Uu h,i1,i2,hl2]
theorem QeE (n:List UInt8) (s:Int) (bs:List (List AV)):call F.tb 272 [.str n,.int .i64 s] bs=some (.agg (Qb (.mk 1 n s [])),bs):=by
 rw[Qa F.tb_272 _ _ rfl]
 simp[F.f272,F.f272C,Mh]
theorem QeC (i:Nat) (bs:List (List AV)) (h:i < 1000000000):call F.tb 270 [.int .i64 i] bs=some (.agg (Qb (Wn i)),bs):=by
 have h1:=QeD i bs (by omega)
 have h4:=Uv 9 i (by omega)
 have h3:1+ (XV i).length≤9223372036854775807:=by omega
 have h2:=QeE (119:: XV i) 0 bs
 rw[Qa F.tb_270 _ _ rfl]
 simp[F.f270B,F.f270C,F.f270R,F.f270K,h1,h2,h3,Wn]
def hbs:Nat→List Tm→List (List AV)
 | _,[]=>[]
 | k,t:: ts=>(Qb (Wn k)++ Qb t):: hbs (k+1) ts
theorem RU: ∀(l:List Tm) (k:Nat),(hbs k l).length=l.length
 | [],_=>rfl
 | t:: ts,k=>by simp[hbs,RU ts]
theorem A0: ∀(l:List Tm) (k:Nat),gpfreeE (hbs k l)=true
 | [],_=>rfl
 | t:: ts,k=>by simp[hbs,gpfreeE,A0 ts,QF]
theorem Em: ∀(l:List Tm) (k:Nat) (x:Tm),hbs k (l ++ [x])=hbs k l ++ [Qb (Wn (k+l.length))++ Qb x]
 | [],k,x=>by simp[hbs]
 | t:: ts,k,x=>by
  simp only[List.cons_append,hbs,Em ts,List.length_cons]
  rw[show k+1+ts.length=k+ (ts.length+1) by omega]
theorem Eo: ∀{l:List Tm} {k i:Nat} {x:Tm},l[i]? =some x→(hbs k l)[i]? =some (Qb (Wn (k+i))++ Qb x)
 | [],_,_,_,h=>by simp at h
 | t:: ts,k,0,x,h=>by simp at h;subst h;simp[hbs]
 | t:: ts,k,i+1,x,h=>by
  simp only[List.getElem?_cons_succ]at h
  simp only[hbs,List.getElem?_cons_succ]
  rw[Eo h,show k+1+i=k+ (i+1) by omega]
theorem HG (f:Fr) (hf:FOk f) (bs:List (List AV)):
  ∀(post pre:List Tm) (ρ:Nat→AV),f.t=pre ++ post→ρ 1= .bx (Qz f)→ρ 3= .sl true 8 (hbs 0 pre)→ρ 4= .int .i64 pre.length→
  R F.tb (.loop F.f269l0) ρ bs (Qk 0 (Qw F.tb F.f269r0 (QB F.f269 bs)))=some (.sl false 8 (hbs 0 f.t),bs):=by
 have htl:=hf.tl
 have hte:Qz f=[.sl false 4 (encTs f.s),.sl false 4 (encTs f.t)]:=rfl
 intro post
 induction post with
 | nil=>
  intro pre ρ hk h1 h3 h4
  simp only[List.append_nil]at hk
  rw[← hk]at h3 h4
  rw[Qc F.f269l0.eq_1]
  simp[h1,h3,h4,hte,F.f269r0,F.f269R,F.f269K,A0]
 | cons x post IH=>
  intro pre ρ hk h1 h3 h4
  have hg:=Qp hk
  have hll:f.t.length=pre.length+ (post.length+1):=by rw[hk];simp
  have hw1:IntKind.i64.wrap ((pre.length:Int)+1)=(pre.length:Int)+1:=Qj (by omega) (by omega)
  have hlt: (pre.length:Int) < (f.t.length:Int):=by omega
  have hc:=QeC pre.length bs (by omega)
  have hb: (pre.length+1)*112≤140737488355328:=by clear hw1;omega
  have hi:=fun ρ=>IH (pre ++ [x]) ρ (by rw[hk];simp)
  simp only[Em,Nat.zero_add]at hi
  rw[Qc F.f269l0.eq_1]
  simp[h1,h3,h4,hte,hg,hlt,hw1,hc,hb,RU]
  apply hi <;> simp[h1,hte]
theorem FY (f:Fr) (hf:FOk f) (bs:List (List AV)):call F.tb 269 [.agg (Qz f)] bs=some (.sl false 8 (hbs 0 f.t),bs):=by
 have h:=fun ρ=>HG f hf bs f.t [] ρ rfl
 rw[Qa F.tb_269 _ _ rfl]
 simp[F.f269B,F.f269C,Qt,Qn,Qv]
 apply h <;> simp[hbs]
def Wv (x:Tm) (k:Nat) (l:List Tm):Tm:=match Vc x k l with
 | some p=>p.2
 | none=>x
theorem AR (x t:Tm) (k:Nat) (ts:List Tm):Wv x k (t:: ts)=if Qm (Wn k) x=0 then t else Wv x (k+1) ts:=by
 simp only[Wv,Vc]
 by_cases c:Qm (Wn k) x=0
 ·simp[c]
 ·simp[c]
theorem QaZ (l:List Tm) (hl:l.length < 1000000) (x:Tm) (hx:x.mass < big) (bs:List (List AV)):
  ∀(post pre:List Tm) (o:Bool) (ρ:Nat→AV),l=pre ++ post→ρ 0= .sl o 8 (hbs 0 l)→ρ 3= .bx (Qb x)→ρ 4= .bx [.int .i64 0,.str [],.int .i64 0,.sl true 4 []]→ρ 5= .int .i64 pre.length→
  R F.tb (.loop F.f273l0) ρ bs (Qk 0 (Qw F.tb F.f273r0 (QB F.f273 bs)))=some (.agg (Qb (Wv x pre.length post)),bs):=by
 intro post
 induction post with
 | nil=>
  intro pre o ρ hk h0 h3 h4 h5
  simp only[List.append_nil]at hk
  rw[← hk]at h5
  have e:Wv x pre.length []=x:=rfl
  rw[Qc F.f273l0.eq_1,e]
  simp[h0,h3,h4,h5,RU,F.f273r0,F.f273R,F.f273K]
 | cons y post IH=>
  intro pre o ρ hk h0 h3 h4 h5
  have hg:=Eo (k:=0) (Qp hk)
  simp only[Nat.zero_add]at hg
  have hll:l.length=pre.length+ (post.length+1):=by rw[hk];simp
  have hw1:IntKind.i64.wrap ((pre.length:Int)+1)=(pre.length:Int)+1:=Qj (by omega) (by omega)
  have hlt: (pre.length:Int) < (l.length:Int):=by omega
  have hc:=Y2 (Wn pre.length) x bs (by have:=Ky pre.length (by omega);unfold big;omega) hx
  rw[Qc F.f273l0.eq_1,AR]
  by_cases c:Qm (Wn pre.length) x=0
  ·simp[h0,h3,h4,h5,hg,hlt,RU,hc,c,F.f273R,F.f273K]
  ·have hi:=fun ρ=>IH (pre ++ [y]) o ρ (by rw[hk];simp)
   simp only[List.length_append,List.length_singleton]at hi
   simp[h0,h3,h4,h5,hg,hlt,hw1,RU,hc,c]
   apply hi <;> simp[h0,h3,h4]
theorem FZ (l:List Tm) (hl:l.length < 1000000) (x:Tm) (hx:x.mass < big) (o:Bool) (bs:List (List AV)):call F.tb 273 [.sl o 8 (hbs 0 l),.agg (Qb x)] bs=some (.agg (Qb (Wv x 0 l)),bs):=by
 have h:=fun ρ=>QaZ l hl x hx bs l [] false ρ rfl
 simp only[List.length_nil]at h
 rw[Qa F.tb_273 _ _ rfl]
 simp[F.f273B,F.f273C]
 apply h <;> simp
theorem Qa4 (f:List Tm) (t:Tm) (bs:List (List AV)) (hm:t.mass < 1000000) (ih: ∀x∈t.kids,∀(o:Bool) (bs:List (List AV)),call F.tb 274 [.sl o 8 (hbs 0 f),.agg (Qb x)] bs=some (.agg (Qb (ZM f x)),bs)):
  ∀(post pre us:List Tm) (o:Bool) (ρ:Nat→AV),t.kids=pre ++ post→us.length=pre.length→ρ 0= .sl o 8 (hbs 0 f)→ρ 3= .bx (Qb t)→ρ 4= .bx [.int .i64 0,.str [],.int .i64 0,.sl true 4 []]→
   ρ 5= .bx [.int .i64 t.kind,.str t.name,.int .i64 t.sort,.sl true 4 (encTs us)]→ρ 6= .int .i64 pre.length→
  R F.tb (.loop F.f274l0) ρ bs (Qk 0 (Qw F.tb F.f274r0 (QB F.f274 bs)))=some (.agg (Qb (.mk t.kind t.name t.sort (us ++ putL f post))),bs):=by
 have hme:=Qq t
 intro post
 induction post with
 | nil=>
  intro pre us o ρ hk hl h0 h3 h4 h5 h6
  simp only[List.append_nil]at hk
  rw[← hk]at h6
  rw[Qc F.f274l0.eq_1]
  simp[h0,h3,h4,h5,h6,F.f274r0,F.f274R,F.f274K,putL]
  simp[Qb]
 | cons x post IH=>
  intro pre us o ρ hk hl h0 h3 h4 h5 h6
  have hg2:=Qp hk
  have hll:t.kids.length=pre.length+ (post.length+1):=by rw[hk];simp
  have hw1:IntKind.i64.wrap ((pre.length:Int)+1)=(pre.length:Int)+1:=Qj (by omega) (by omega)
  have hlt: (pre.length:Int) < (t.kids.length:Int):=by omega
  have hc:=fun o=>ih x (by rw[hk];simp) o bs
  have hb: (us.length+1)*56≤140737488355328:=Yn (by omega)
  have hi:=fun ρ=>IH (pre ++ [x]) (us ++ [ZM f x]) o ρ (by rw[hk];simp) (by simp[hl])
  have e:us ++ putL f (x:: post)=us ++ [ZM f x]++ putL f post:=by simp[putL]
  rw[Qc F.f274l0.eq_1,e]
  simp[h0,h3,h4,h5,h6,hg2,hlt,hw1,hc,hb,Q0,QS,-List.append_assoc]
  apply hi <;> simp[h0,h3,h4]
theorem QeF (f:List Tm) (hf:f.length < 1000000): ∀(r:Tm) (o:Bool) (bs:List (List AV)),r.mass < 1000000→call F.tb 274 [.sl o 8 (hbs 0 f),.agg (Qb r)] bs=some (.agg (Qb (ZM f r)),bs):=by
 refine Zd (P:=fun r=>∀(o:Bool) (bs:List (List AV)),r.mass < 1000000→call F.tb 274 [.sl o 8 (hbs 0 f),.agg (Qb r)] bs=some (.agg (Qb (ZM f r)),bs)) ?_
 intro k n s ks ih o bs hm
 have hme:=Qq (.mk k n s ks)
 simp only[QO,Za]at hme
 rw[Qa F.tb_274 _ _ rfl]
 by_cases k1:k=1
 ·subst k1
  have h1:=fun o=>FZ f hf (.mk 1 n s ks) (by unfold big;omega) o bs
  have e:ZM f (.mk 1 n s ks)=Wv (.mk 1 n s ks) 0 f:=by simp only[ZM,Wv,if_true] <;> cases Vc (Tm.mk 1 n s ks) 0 f <;> rfl
  rw[e]
  simp[F.f274B,F.f274C,F.f274R,F.f274K,h1]
 ·have hl:=fun ρ=>Qa4 f (.mk k n s ks) bs hm (fun x hx o bs=>ih x hx o bs (by have h1:x.mass≤massL ks:=QA hx;omega)) ks [] [] false ρ rfl rfl
  have e:ZM f (.mk k n s ks)= .mk k n s ([]++ putL f ks):=by simp[ZM,k1]
  rw[e]
  simp only[Za,QO,XX,WK]at hl
  simp[F.f274B,F.f274C,k1,QF]
  apply hl <;> simp[encTs,QF]
end Go.Am
namespace Go.Am
set_option maxRecDepth 8000
theorem QcG:Z2.all (fun y=>(y.k == 2) == W7 y.n)=true:=by decide
theorem Qjg (n:List UInt8):decide (XS n=2)=W7 n:=by
 unfold XS
 cases h:Zc n Z2 with
 | none=>
  simp only
  cases hp:W7 n
  ·rfl
  ·exfalso
   simp only[W7,Bool.or_eq_true,beq_iff_eq]at hp
   rcases hp with(rfl | rfl) | rfl <;> revert h <;> decide
 | some y=>
  obtain⟨h1,h2⟩:=T7 h
  have h3:=List.all_eq_true.1 QcG y h1
  simp only[beq_iff_eq]at h3
  rw[← h2,← h3]
  simp only
  by_cases c:y.k=2
  ·simp[c]
  ·simp[c]
def Tv (f a:List Tm) (x:Tm):Int:=if x.kind=3 then(if W7 x.name then 10 else 0)else if x.kind=1 then(if Qm (Wv x 0 f) x=0 then 13 else 0)else if YI x then 0 else if Wx a x then 0 else 13
def frR (f a:List Tm):List Tm→Int
 | []=>0
 | x:: xs=>if Tv f a x≠0 then Tv f a x else frR f a xs
theorem AU {f:List Tm} {x:Tm} {M:Nat} (hf: ∀y∈f,y.mass < M) (hx:x.mass < M): (Wv x 0 f).mass < M:=by
 unfold Wv
 split
 ·rename_i p hp;exact hf p.2 (Ph hp)
 ·exact hx
theorem EO (f a l:List Tm) (bs:List (List AV)) (hf:f.length < 1000000) (hfm: ∀x∈f,x.mass < 1000000) (ha:a.length < 1000000) (ham: ∀x∈a,x.mass < 1000000) (hl:l.length < 1000000) (hm: ∀x∈l,x.mass < 1000000):
  ∀(post pre:List Tm) (o1 o2 o3:Bool) (ρ:Nat→AV),l=pre ++ post→ρ 7= .sl o1 4 (encTs l)→ρ 8= .sl o2 4 (encTs a)→ρ 9= .sl o3 8 (hbs 0 f)→ρ 10= .int .i64 pre.length→
  R F.tb (.loop F.f268l0) ρ bs (Qk 0 (Qw F.tb F.f268r0 (QB F.f268 bs)))=some (.int .i64 (frR f a post),bs):=by
 intro post
 induction post with
 | nil=>
  intro pre o1 o2 o3 ρ hk h7 h8 h9 h10
  simp only[List.append_nil]at hk
  rw[← hk]at h10
  rw[Qc F.f268l0.eq_1]
  simp[h7,h8,h9,h10,F.f268r0,F.f268R,F.f268K,frR]
 | cons x post IH=>
  intro pre o1 o2 o3 ρ hk h7 h8 h9 h10
  have hg:=Qp hk
  have hll:l.length=pre.length+ (post.length+1):=by rw[hk];simp
  have hw1:IntKind.i64.wrap ((pre.length:Int)+1)=(pre.length:Int)+1:=Qj (by omega) (by omega)
  have hlt: (pre.length:Int) < (l.length:Int):=by omega
  have hxm:=hm x (by rw[hk];simp)
  have hxb:x.mass < big:=by unfold big;omega
  have hc1:=Tc x.name bs
  have hc2:=fun o=>FZ f hf x hxb o bs
  have hc3:=Y2 (Wv x 0 f) x bs (by have:=AU hfm hxm;unfold big;omega) hxb
  have hc4:=LH x bs hxm
  have hc5:=fun o=>Ns a x o bs (by omega) (fun y hy=>by have:=ham y hy;unfold big;omega) hxb
  have hp:=Qjg x.name
  have h2:=fun ρ=>IH (pre ++ [x]) o1 o2 o3 ρ (by rw[hk];simp)
  rw[Qc F.f268l0.eq_1]
  by_cases k3:x.kind=3
  ·cases c:W7 x.name
   ·rw[c]at hp
    have e:frR f a (x:: post)=frR f a post:=by simp[frR,Tv,k3,c]
    rw[e]
    simp at hp
    simp[h7,h8,h9,h10,hg,hlt,hw1,k3,hc1,hp]
    apply h2 <;> simp[h7,h8,h9]
   ·rw[c]at hp
    have e:frR f a (x:: post)=10:=by simp[frR,Tv,k3,c]
    rw[e]
    simp at hp
    simp[h7,h8,h9,h10,hg,hlt,k3,hc1,hp,F.f268R,F.f268K]
  ·by_cases k1:x.kind=1
   ·by_cases c:Qm (Wv x 0 f) x=0
    ·have e:frR f a (x:: post)=13:=by simp[frR,Tv,k1,c]
     rw[e]
     simp[h7,h8,h9,h10,hg,hlt,k1,hc2,hc3,c,F.f268R,F.f268K]
    ·have e:frR f a (x:: post)=frR f a post:=by simp[frR,Tv,k1,c]
     rw[e]
     simp[h7,h8,h9,h10,hg,hlt,hw1,k1,hc2,hc3,c]
     apply h2 <;> simp[h7,h8,h9]
   ·cases c:YI x
    ·cases d:Wx a x
     ·have e:frR f a (x:: post)=13:=by simp[frR,Tv,k3,k1,c,d]
      rw[e]
      simp[h7,h8,h9,h10,hg,hlt,k3,k1,hc4,hc5,c,d,F.f268R,F.f268K]
     ·have e:frR f a (x:: post)=frR f a post:=by simp[frR,Tv,k3,k1,c,d]
      rw[e]
      simp[h7,h8,h9,h10,hg,hlt,hw1,k3,k1,hc4,hc5,c,d]
      apply h2 <;> simp[h7,h8,h9]
    ·have e:frR f a (x:: post)=frR f a post:=by simp[frR,Tv,k3,k1,c]
     rw[e]
     simp[h7,h8,h9,h10,hg,hlt,hw1,k3,k1,hc4,c]
     apply h2 <;> simp[h7,h8,h9]
mutual
theorem Kr: ∀t:Tm,Ye t=0→∀x∈QR t,Wa x=0
 | .mk k n s ks,h,x,hx=>by
  simp only[Ye]at h
  by_cases c:Wa (.mk k n s ks)=0
  ·rw[if_neg (by simpa using c)]at h
   simp only[QR]at hx
   rcases List.mem_cons.1 hx with rfl | hx
   ·exact c
   ·exact err_nodesL ks h x hx
  ·rw[if_pos c]at h;exact absurd h c
theorem err_nodesL: ∀l:List Tm,errL l=0→∀x∈allL l,Wa x=0
 | [],_,x,hx=>by simp[allL]at hx
 | t:: ts,h,x,hx=>by
  simp only[errL]at h
  by_cases c:Ye t=0
  ·rw[if_neg (by simpa using c)]at h
   simp only[allL,List.mem_append]at hx
   rcases hx with hx | hx
   ·exact Kr t c x hx
   ·exact err_nodesL ts h x hx
  ·rw[if_pos c]at h;exact absurd h c
end
theorem Qaa {x:Tm} (h:Wa x=0):x.kind=1∨x.kind=2∨x.kind=3:=by
 unfold Wa at h
 by_cases c:x.kind=1∨x.kind=2
 ·rcases c with c | c <;> simp[c]
 ·rw[if_neg c]at h
  by_cases d:x.kind=3
  ·simp[d]
  ·rw[if_neg d]at h;exact absurd h (by decide)
theorem MR: ∀{l:List Tm},XR l=0→∀x∈l,Ys x=0
 | [],_,x,hx=>by cases hx
 | y:: l,h,x,hx=>by
  simp only[XR]at h
  by_cases c:Ys y=0
  ·rw[if_neg (by simpa using c)]at h
   rcases List.mem_cons.1 hx with rfl | hx
   ·exact c
   ·exact MR h x hx
  ·rw[if_pos c]at h;exact absurd h c
theorem Al (t:Tm):t∈QR t:=by cases t;simp[QR]
theorem GO {x:Tm} (h:Ys x=0):x.kind≠1:=by
 intro hk
 unfold Ys at h
 by_cases c:thV x=0
 ·rw[if_neg (by simpa using c)]at h
  by_cases d:W8 x=[]
  ·unfold W8 at d
   have h1:x∈(QR x).filter (ZK 1):=List.mem_filter.2 ⟨Al x,by simp[ZK,hk]⟩
   have h2:x∈YZ ((QR x).filter (ZK 1)):=Vg.2 h1
   rw[d]at h2;cases h2
  ·rw[if_pos d]at h;exact absurd h (by decide)
 ·rw[if_pos c]at h;exact absurd h c
theorem Qir {f a:List Tm} {x:Tm} (hg: ∀y∈f,y.kind≠1) (hk:x.kind=1∨x.kind=2∨x.kind=3):Tv f a x=Y7 f a x:=by
 unfold Tv Y7
 rcases hk with hk | hk | hk
 ·simp only[hk]
  have h0: ¬(1:Int)=3:=by decide
  rw[if_neg h0,if_pos trivial,if_pos trivial]
  cases h:Vc x 0 f with
  | none=>
   have h1:ixT x 0 f= -1:=by simp[ixT,h]
   have h2:Wv x 0 f=x:=by simp[Wv,h]
   rw[h1,h2,XA];rfl
  | some p=>
   have h1:ixT x 0 f=p.1:=by simp[ixT,h]
   have h2:Wv x 0 f=p.2:=by simp[Wv,h]
   have h3: ¬Qm p.2 x=0:=fun e=>hg p.2 (Ph h) (by rw[Hr.1 e];exact hk)
   have h4: ¬(p.1:Int) < 0:=by omega
   rw[h1,h2,if_neg h3,if_neg h4]
 ·simp only[hk]
  rfl
 ·simp only[hk]
  rfl
theorem Qc2 {f a:List Tm} (hg: ∀y∈f,y.kind≠1): ∀{l:List Tm},(∀x∈l,Wa x=0)→frR f a l=frE f a l
 | [],_=>rfl
 | x:: l,h=>by
  simp only[frR,frE,Qir hg (Qaa (h x (by simp))),Qc2 hg (l:=l) fun y hy=>h y (by simp[hy])]
theorem Qf6 {t:Tm} (h:thV t=0):Ye t=0:=(WS (RZ h).1).1
theorem QeB (f:Fr) (hf:FOk f) (hM:massL f.t < 1000000) (r:Tm) (hr:r.mass < 1000000) (bs:List (List AV)):call F.tb 268 [.agg (Qz f),.agg (Qb r)] bs=some (.int .i64 (Um f r),bs):=by
 have h1:=OM f bs hf
 have h2:=VB r bs (by unfold big;omega)
 have h3:=QeA f hf hM bs
 have h5:=FY f hf bs
 have h6:=VU r bs (by omega)
 have hn:=nodesL_le_mass f.t
 have hfl:=Ku f
 have hnl:=Xh r
 have hnm:=Ze r
 rw[Qa F.tb_268 _ _ rfl]
 unfold Um
 by_cases c1:Zu f=0
 ·by_cases c2:thV r=0
  ·have h4:=fun ρ o1 o2 o3=>EO f.t (W6 f) (QR r) bs hf.tl hf.t (by omega) (Mn hM) (by omega) (fun x hx=>by have:=Xb r x hx;omega) (QR r) [] o1 o2 o3 ρ rfl
   have hgr: ∀y∈f.t,y.kind≠1:=fun y hy=>by
    have h0:=c1
    unfold Zu at h0
    split at h0
    ·exact absurd h0 (by decide)
    ·split at h0
     ·rename_i h;exact absurd h0 h
     ·exact GO (MR h0 y hy)
   rw[Qc2 hgr (Kr r (Qf6 c2))]at h4
   simp[F.f268B,F.f268C,Qt,Qn,Qv,h1,h2,h3,h5,h6,c1,c2]
   apply h4 <;> first | rfl | simp
  ·simp[F.f268B,F.f268C,F.f268R,F.f268K,Qt,Qn,Qv,h1,h2,c1,c2]
 ·simp[F.f268B,F.f268C,F.f268R,F.f268K,Qt,Qn,Qv,h1,c1]
theorem Aw (l:List Tm) (bs:List (List AV)) (hl:l.length < 1000000):
  ∀(post pre:List Tm) (o:Bool) (ρ:Nat→AV),l=pre ++ post→ρ 3= .sl o 4 (encTs l)→ρ 4= .int .i64 pre.length→
  R F.tb (.loop F.f275l0) ρ bs (Qk 0 (Qw F.tb F.f275r0 (QB F.f275 bs)))=some (.bool (!post.all ndN),bs):=by
 intro post
 induction post with
 | nil=>
  intro pre o ρ hk h3 h4
  simp only[List.append_nil]at hk
  rw[← hk]at h4
  rw[Qc F.f275l0.eq_1]
  simp[h3,h4,F.f275r0,F.f275R,F.f275K]
 | cons x post IH=>
  intro pre o ρ hk h3 h4
  have hg:=Qp hk
  have hll:l.length=pre.length+ (post.length+1):=by rw[hk];simp
  have hw1:IntKind.i64.wrap ((pre.length:Int)+1)=(pre.length:Int)+1:=Qj (by omega) (by omega)
  have hlt: (pre.length:Int) < (l.length:Int):=by omega
  have hc1:=Tc x.name bs
  have hp:=OV x.name
  have h2:=fun ρ=>IH (pre ++ [x]) o ρ (by rw[hk];simp)
  rw[Qc F.f275l0.eq_1]
  by_cases k3:x.kind=3
  ·cases c:Z7 x.name
   ·rw[c]at hp
    have e: (x:: post).all ndN=post.all ndN:=by simp[ndN,k3,c]
    rw[e]
    simp at hp
    simp[h3,h4,hg,hlt,hw1,k3,hc1,hp,-List.all_eq_true,-List.all_eq_false]
    apply h2 <;> simp[h3]
   ·rw[c]at hp
    have e: (x:: post).all ndN=false:=by simp[ndN,k3,c]
    rw[e]
    simp at hp
    simp[h3,h4,hg,hlt,k3,hc1,hp,F.f275R,F.f275K]
  ·have e: (x:: post).all ndN=post.all ndN:=by simp[ndN,k3]
   rw[e]
   simp[h3,h4,hg,hlt,hw1,k3,-List.all_eq_true,-List.all_eq_false]
   apply h2 <;> simp[h3]
theorem QeG (t:Tm) (bs:List (List AV)) (hm:t.mass < 1000000):call F.tb 275 [.agg (Qb t)] bs=some (.bool (!evT t),bs):=by
 have h1:=VU t bs (by omega)
 have hnl:=Xh t
 have hnm:=Ze t
 have h2:=fun ρ o=>Aw (QR t) bs (by omega) (QR t) [] o ρ rfl
 rw[Qa F.tb_275 _ _ rfl,LU]
 simp[F.f275B,F.f275C,h1,-List.all_eq_true,-List.all_eq_false]
 apply h2 <;> first | rfl | simp
theorem FX (f:Fr) (hf:FOk f) (hM:massL f.t < 1000000) (r:Tm) (hr:r.mass < 1000000) (bs:List (List AV)):call F.tb 267 [.agg (Qz f),.agg (Qb r)] bs=some (QN (Zb f r),bs):=by
 have h1:=QeB f hf hM r hr bs
 rw[Qa F.tb_267 _ _ rfl]
 by_cases c1:Um f r=0
 ·obtain⟨v1,v2,v3,v4⟩:=Ev c1
  have h0:=FY f hf bs
  have h2:=fun o=>QeF f.t hf.tl r o bs hr
  obtain⟨t1,t2,t3,t4,t5⟩:=RZ v2
  have hpm:=NJ (f:=f.t) (M:=1000000) (fun x hx=>by have:=hf.t x hx;omega) r
  have h3:=LI (ZM f.t r) bs (by have:1000000*r.nodes≤1000000*400:=Nat.mul_le_mul_left _ t5;unfold big;omega)
  have hnm:=WL (ZM f.t r)
  have h4:=QeG (QX (ZM f.t r)).1 bs (by omega)
  simp only[QN]at h3
  by_cases c2: (QX (ZM f.t r)).2=0
  ·cases c3:evT (QX (ZM f.t r)).1
   ·have e:Zb f r=(QC,11):=by simp[Zb,c1,c2,c3]
    rw[e]
    simp[F.f267B,F.f267C,F.f267R,F.f267K,Qt,Qn,Qv,h0,h1,h2,h3,h4,c1,c2,c3,QH,QE]
   ·have e:Zb f r=((QX (ZM f.t r)).1,0):=by simp[Zb,c1,c2,c3]
    rw[e]
    simp[F.f267B,F.f267C,F.f267R,F.f267K,Qt,Qn,Qv,h0,h1,h2,h3,h4,c1,c2,c3,QH]
  ·have e:Zb f r=(QC,(QX (ZM f.t r)).2):=by simp[Zb,c1,c2]
   rw[e]
   simp[F.f267B,F.f267C,F.f267R,F.f267K,Qt,Qn,Qv,h0,h1,h2,h3,c1,c2,QH,QE]
 ·have e:Zb f r=(QC,Um f r):=by simp[Zb,c1]
  rw[e]
  simp[F.f267B,F.f267C,F.f267R,F.f267K,Qt,Qn,Qv,h1,c1,QH,QE]
end Go.Am
namespace Go.Am
set_option maxRecDepth 8000
theorem T1 (f:Fr) (r:Tm): (Zb f r).1.mass≤13200:=by
 have h:=WL (ZM f.t r)
 have hz:=WF
 unfold Zb
 split
 ·simp only;omega
 ·split
  ·simp only;omega
  ·split
   ·exact h
   ·simp only;omega
end Go.Am
