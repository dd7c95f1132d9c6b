/-
  En7, En8, En9, En10, En11, En12, En13, En14, En15, En16, En17, En18, En19, En20, En21, En22, En23, En24, En25, En26, En30, En31, En32, En33, En34, En35.
-/
import Derived.Test.YtpdmcibimbjknaaGreatDoorG20
set_option linter.unusedVariables false
set_option linter.unusedSimpArgs false
namespace Go.Am
set_option maxRecDepth 8000
theorem Ly: ∀(r pre:List Nm),pre.Nodup→agE pre r=0→(pre ++ r).Nodup
 | [],pre,hp,_=>by simpa using hp
 | a:: r,pre,hp,h=>by
  simp only[agE]at h;split at h
  ·cases h
  ·split at h
   ·cases h
   ·rename_i hc;have hn:a ∉ pre:=by simpa using hc
    have:=Ly r (pre ++ [a]) (by
     rw[List.nodup_append];exact⟨hp,by simp,fun x hx y hy e=>by simp at hy;subst hy;subst e;exact hn hx⟩) h
    simpa using this
theorem H2 {ags bad:List Nm} (h:Xx ags bad=0):ags.Nodup:=by
 unfold Xx at h;split at h
 ·cases h
 ·split at h
  ·cases h
  ·split at h
   ·rename_i h1;exact absurd h h1
   ·rename_i h1;simpa using Ly ags [] (by simp) (by simpa using h1)
theorem Qa1 {l:List Nm} (h:l.Nodup) {i k:Nat} {a b:Nm} (h1:l[i]? =some a) (h2:l[k]? =some b): (i=k↔a=b):=by
 constructor
 ·intro e;subst e;rw[h1]at h2;injection h2
 ·intro e;subst e;have l1:=Wk h1;have l2:=Wk h2;exact(List.getElem?_inj l1 h).1 (h1.trans h2.symm)
theorem QiN (ags bad sm:List Nm) (bs:List (List AV)) (ha:ags.length < 1000) (hs:sm.length < 1000000) (hn:ags.Nodup) (a:Nm) (i:Nat) (hi:ags[i]? =some a) (c:AC) (K:Kn) (X:Out):
  ∀(post pre:List Nm) (acc:List Tm) (o2:Bool) (ρ:Nat→AV),ags=pre ++ post→acc.length+post.length < 100000→
   ρ 1= .sl o2 1 (Za sm)→ρ 2= .bx (QU ags bad)→ρ 5= .sl true 4 (encTs acc)→ρ 6= .int .i64 i→ρ 7= .str a→ρ 8= .int .i64 pre.length→
   (∀(ρ':Nat→AV),ρ' 5= .sl true 4 (encTs (acc ++ shL sm a post))→(∀j,j < 8→j≠5→ρ' j=ρ j)→R F.tb c ρ' bs K=X)→
  R F.tb (.loop F.f579l0) ρ bs (Qh 2 (Qh 1 (Qq F.tb c K)))=X:=by
 intro post
 induction post with
 | nil=>
  intro pre acc o2 ρ hk hal h1 h2 h5 h6 h7 h8 h;simp only[List.append_nil]at hk;rw[← hk]at h8;simp only[QU]at h2;rw[Qb F.f579l0.eq_1];simp[h1,h2,h8,QE];refine h _ ?_ ?_
  ·simp[h5,shL]
  ·intro j hj h5j;have:j≠31∧j≠32∧j≠33∧j≠34∧j≠35:=by omega
   simp[this]
 | cons b post IH=>
  intro pre acc o2 ρ hk hal h1 h2 h5 h6 h7 h8 h;have hgp:=Qn hk;have hgt:=YN hgp;have hll:=Qu hk;have hw1:=wr1 pre.length (by omega);have hlt:=Qv hk;simp only[List.length_cons]at hal;have c1:=RO sm a false bs hs;have c2:=RO sm b false bs hs;have g1:=Oo (l:=sm) (x:=a);have g2:=Oo (l:=sm) (x:=b);have hik:=Qa1 hn hi hgp;have hiki: ((i:Int)=(pre.length:Int))↔a=b:=by rw[← hik];omega
  have happ:encTs acc ++ [Qc (shN a b)]=encTs (acc ++ [shN a b]):=by simp[Zq]
  have hlen: (encTs acc).length=acc.length:=by simp[Zq]
  have hby: (acc.length+1)*56≤140737488355328:=Yu (by omega);have c580:=QdK a b bs;have hjn: ∀j:Nat,j < 8→j≠8∧j≠9∧j≠31∧j≠32∧j≠33∧j≠34∧j≠35∧j≠36∧j≠37∧j≠38∧j≠39∧j≠40∧j≠41∧j≠42∧j≠43∧j≠44∧j≠45∧j≠46∧j≠47∧j≠48∧j≠49∧j≠50∧j≠51∧j≠52∧j≠53∧j≠54∧j≠55∧j≠56∧j≠57∧j≠58∧j≠59∧j≠60∧j≠61∧j≠62∧j≠63:=by intro j hj;omega
  rw[Qb F.f579l0.eq_1];have skip:shB sm a b=false→∀ρ2:Nat→AV,ρ2 1= .sl o2 1 (Za sm)→ρ2 2= .bx (QU ags bad)→ρ2 5= .sl true 4 (encTs acc)→ρ2 6= .int .i64 i→ρ2 7= .str a→ρ2 8= .int .i64 ((pre ++ [b]).length:Nat)→(∀j,j < 8→j≠5→ρ2 j=ρ j)→
    R F.tb (.loop F.f579l0) ρ2 bs (Qh 2 (Qh 1 (Qq F.tb c K)))=X:=by
   intro hb ρ2 a1 a2 a5 a6 a7 a8 aj;have e:shL sm a (b:: post)=shL sm a post:=by simp[shL,hb]
   refine IH (pre ++ [b]) acc o2 ρ2 (by rw[hk];simp) (by omega) a1 a2 a5 a6 a7 a8 fun ρ' t2 t3=>h ρ' (by rw[e];exact t2) fun j j1 j2=> ?_;rw[t3 j j1 j2,aj j j1 j2]
  have take:shB sm a b=true→∀ρ2:Nat→AV,ρ2 1= .sl o2 1 (Za sm)→ρ2 2= .bx (QU ags bad)→ρ2 5= .sl true 4 (encTs (acc ++ [shN a b]))→ρ2 6= .int .i64 i→ρ2 7= .str a→ρ2 8= .int .i64 ((pre ++ [b]).length:Nat)→(∀j,j < 8→j≠5→ρ2 j=ρ j)→
    R F.tb (.loop F.f579l0) ρ2 bs (Qh 2 (Qh 1 (Qq F.tb c K)))=X:=by
   intro hb ρ2 a1 a2 a5 a6 a7 a8 aj;have e:acc ++ shL sm a (b:: post)=(acc ++ [shN a b])++ shL sm a post:=by simp[shL,hb]
   refine IH (pre ++ [b]) (acc ++ [shN a b]) o2 ρ2 (by rw[hk];simp) (by simp;omega) a1 a2 a5 a6 a7 a8 fun ρ' t2 t3=>h ρ' (by rw[e];exact t2) fun j j1 j2=> ?_;rw[t3 j j1 j2,aj j j1 j2]
  simp only[QU]at h2 skip take;generalize encTs (acc ++ [shN a b])=E2 at *;generalize encTs acc=EA at *;by_cases hab:a=b
  ·have hb:shB sm a b=false:=by simp[shB,hab]
   have hi1: (i:Int)=(pre.length:Int):=hiki.2 hab;have hi2:i=pre.length:=by omega
   simp[h1,h2,h5,h6,h7,h8,hgt,hlt,hw1,hi1,hi2,QE];apply skip hb
   all_goals first | (intro j j1 j2;have:=hjn j j1;simp[this,j2];done) | simp[h1,h2,h5,h6,h7,hi1,hi2]
  ·have hab': (a == b)=false:=by simpa using hab
   have hi1: ¬(i:Int)=(pre.length:Int):=fun e=>hab (hiki.1 e);have hi2: ¬i=pre.length:=fun e=>hab (hik.1 e);cases hA:sm.contains a
   ·rw[hA]at g1;have g1': ¬0≤ixF sm a:=by simpa using g1
    cases hB:sm.contains b
    ·rw[hB]at g2;have g2': ¬0≤ixF sm b:=by simpa using g2
     have hb:shB sm a b=false:=by unfold shB;rw[hA,hB];simp
     simp[h1,h2,h5,h6,h7,h8,hgt,hlt,hw1,hi1,hi2,c1,c2,g1',g2',QE];apply skip hb
     all_goals first | (intro j j1 j2;have:=hjn j j1;simp[this,j2];done) | simp[h1,h2,h5,h6,h7]
    ·rw[hB]at g2;have g2':0≤ixF sm b:=by simpa using g2
     have hb:shB sm a b=true:=by unfold shB;rw[hA,hB,hab'];rfl
     simp[h1,h2,h5,h6,h7,h8,hgt,hlt,hw1,hi1,hi2,c1,c2,g1',g2',QE,c580,hlen,hby,happ];apply take hb
     all_goals first | (intro j j1 j2;have:=hjn j j1;simp[this,j2];done) | simp[h1,h2,h5,h6,h7]
   ·rw[hA]at g1;have g1':0≤ixF sm a:=by simpa using g1
    have hb:shB sm a b=true:=by unfold shB;rw[hA,hab'];rfl
    simp[h1,h2,h5,h6,h7,h8,hgt,hlt,hw1,hi1,hi2,c1,g1',QE,c580,hlen,hby,happ];apply take hb
    all_goals first | (intro j j1 j2;have:=hjn j j1;simp[this,j2];done) | simp[h1,h2,h5,h6,h7]
theorem QiO (ags bad sm:List Nm) (bs:List (List AV)) (ha:ags.length < 100) (hs:sm.length < 1000000) (hn:ags.Nodup):
  ∀(post pre:List Nm) (acc:List Tm) (o2:Bool) (ρ:Nat→AV),ags=pre ++ post→acc.length+post.length* (ags.length+1) < 20000→
   ρ 1= .sl o2 1 (Za sm)→ρ 2= .bx (QU ags bad)→ρ 5= .sl true 4 (encTs acc)→ρ 6= .int .i64 pre.length→
  R F.tb (.loop F.f579l1) ρ bs (Qh 0 (Qq F.tb F.f579r1 (Qx F.f579 bs)))=some (.sl false 4 (encTs (acc ++ Yp ags sm post)),bs):=by
 intro post
 induction post with
 | nil=>
  intro pre acc o2 ρ hk hal h1 h2 h5 h6;simp only[List.append_nil]at hk;rw[← hk]at h6;have hg:=encTs_gp acc;simp only[QU]at h2;rw[Qb F.f579l1.eq_1];simp[h1,h2,h5,h6,QE,Yp,F.f579r1,hg]
 | cons a post IH=>
  intro pre acc o2 ρ hk hal h1 h2 h5 h6;have hgp:=Qn hk;have hgt:=YN hgp;have hll:=Qu hk;have hw1:=wr1 pre.length (by omega);have hlt:=Qv hk;have hsh:=Ls sm a ags;have hsk:=Lt sm a;simp only[List.length_cons,Nat.succ_mul]at hal;have c1:=RO sm a false bs hs;have g1:=Oo (l:=sm) (x:=a);have c577:=G5 a bs;have happ:encTs acc ++ [Qc (skN a)]=encTs (acc ++ [skN a]):=by simp[Zq]
  have hlen: (encTs acc).length=acc.length:=by simp[Zq]
  have hby: (acc.length+1)*56≤140737488355328:=Yu (by omega);have go: ∀(acc2:List Tm),acc2=acc ++ skL sm a→∀ρ2:Nat→AV,ρ2 1= .sl o2 1 (Za sm)→ρ2 2= .bx (QU ags bad)→ρ2 5= .sl true 4 (encTs acc2)→ρ2 6= .int .i64 pre.length→ρ2 7= .str a→ρ2 8= .int .i64 0→
    R F.tb (.loop F.f579l0) ρ2 bs (Qh 2 (Qh 1 (Qq F.tb F.f579r0 (Qq F.tb (.loop F.f579l1) (Qh 0 (Qq F.tb F.f579r1 (Qx F.f579 bs)))))))=some (.sl false 4 (encTs (acc ++ Yp ags sm (a:: post))),bs):=by
   intro acc2 e2 ρ2 a1 a2 a5 a6 a7 a8;refine QiN ags bad sm bs (by omega) hs hn a pre.length hgp F.f579r0 _ _ ags [] acc2 o2 ρ2 rfl (by rw[e2,List.length_append];omega) a1 a2 a5 a6 a7 (by simpa using a8) ?_;intro ρ' t5 tj;have e3:acc ++ Yp ags sm (a:: post)=(acc2 ++ shL sm a ags)++ Yp ags sm post:=by rw[e2];simp[Yp]
   rw[e3];have ih:=fun ρ=>IH (pre ++ [a]) (acc2 ++ shL sm a ags) o2 ρ (by rw[hk];simp) (by rw[List.length_append,e2,List.length_append];omega);have b1:=tj 1 (by omega) (by omega);have b2:=tj 2 (by omega) (by omega);have b6:=tj 6 (by omega) (by omega);rw[a1]at b1;rw[a2]at b2;rw[a6]at b6
   simp[-List.append_assoc,F.f579r0,b6,hw1];apply ih <;> simp[-List.append_assoc,b1,b2,t5]
  rw[Qb F.f579l1.eq_1];cases hA:sm.contains a
  ·rw[hA]at g1;have g1': ¬0≤ixF sm a:=by simpa using g1
   have e2:acc=acc ++ skL sm a:=by unfold skL;rw[hA];simp
   have g:=fun ρ2=>go acc e2 ρ2;simp only[QU]at h2 g;simp[h1,h2,h5,h6,hgt,hlt,c1,g1',QE];apply g <;> simp[h1,h2,h5,h6,QE]
  ·rw[hA]at g1;have g1':0≤ixF sm a:=by simpa using g1
   have e2:acc ++ [skN a]=acc ++ skL sm a:=by unfold skL;rw[hA];simp
   have g:=fun ρ2=>go (acc ++ [skN a]) e2 ρ2;simp only[QU]at h2 g;generalize encTs (acc ++ [skN a])=E2 at *;simp[h1,h2,h5,h6,hgt,hlt,c1,g1',c577,hlen,hby,happ,QE];apply g <;> simp[h1,h2,h5,h6,QE]
theorem QdJ (ags bad sm:List Nm) (o:Bool) (bs:List (List AV)) (ha:ags.length < 100) (hs:sm.length < 1000000) (hn:ags.Nodup):
  call F.tb 579 [.agg (QU ags bad),.sl o 1 (Za sm)] bs=some (.sl false 4 (encTs (Yp ags sm ags)),bs):=by
 have hq:ags.length* (ags.length+1)≤99*100:=Nat.mul_le_mul (by omega) (by omega);have h:=fun ρ=>QiO ags bad sm bs ha hs hn ags [] [] false ρ rfl (by simp;omega);simp only[QU,List.nil_append]at h;rw[Qa F.tb_579 _ _ rfl];simp[F.f579C,QU];apply h <;> simp[QE,encTs]
theorem QiP (ags bad:List Nm) (bs:List (List AV)) (ha:ags.length < 1000):
  ∀(post pre:List Nm) (acc:List Tm) (ρ:Nat→AV),ags=pre ++ post→acc.length+post.length < 100000→
   ρ 1= .bx (QU ags bad)→ρ 3= .sl true 4 (encTs acc)→ρ 4= .int .i64 pre.length→
  R F.tb (.loop F.f575l0) ρ bs (Qh 0 (Qq F.tb F.f575r0 (Qx F.f575 bs)))=some (.sl true 4 (encTs (acc ++ post.map pkN)),bs):=by
 intro post
 induction post with
 | nil=>
  intro pre acc ρ hk hal h1 h3 h4;simp only[List.append_nil]at hk;rw[← hk]at h4;have hg:=encTs_gp acc;simp only[QU]at h1;rw[Qb F.f575l0.eq_1];simp[h1,h3,h4,QE,F.f575r0,hg]
 | cons a post IH=>
  intro pre acc ρ hk hal h1 h3 h4;have hgt:=YN (Qn hk);have hll:=Qu hk;have hw1:=wr1 pre.length (by omega);have hlt:=Qv hk;simp only[List.length_cons]at hal;have c576:=QdI a bs;have happ:encTs acc ++ [Qc (pkN a)]=encTs (acc ++ [pkN a]):=by simp[Zq]
  have hlen: (encTs acc).length=acc.length:=by simp[Zq]
  have hby: (acc.length+1)*56≤140737488355328:=Yu (by omega);have ih:=fun ρ=>IH (pre ++ [a]) (acc ++ [pkN a]) ρ (by rw[hk];simp) (by simp;omega);have e:acc ++ (a:: post).map pkN=(acc ++ [pkN a])++ post.map pkN:=by simp
  simp only[QU]at h1 ih;rw[Qb F.f575l0.eq_1,e];generalize encTs (acc ++ [pkN a])=E2 at *;simp[-List.append_assoc,h1,h3,h4,QE,hlt,hgt,hw1,c576,hlen,hby,happ];apply ih <;> simp[h1]
theorem QdH (ags bad:List Nm) (bs:List (List AV)) (ha:ags.length < 1000):call F.tb 575 [.agg (QU ags bad)] bs=some (.sl true 4 (encTs (ags.map pkN)),bs):=by
 have h:=fun ρ=>QiP ags bad bs ha ags [] [] ρ rfl (by simp;omega);simp only[QU,List.nil_append]at h;rw[Qa F.tb_575 _ _ rfl];simp[F.f575C,QU];apply h <;> simp[QE,encTs]
theorem QdF (ags bad:List Nm) (B0:List (List AV)) (ha:ags.length < 1000000) (hb:bad.length < 1000000) (hm: ∀a∈ags,a.length≤1000):
  call F.tb 571 [.agg (QU ags bad)] B0=some (Lj ags bad,B0):=by
 have c572:=G4 ags bad B0 ha hb fun a h=>by have:=hm a h;omega
 rw[Qa F.tb_571 _ _ rfl];unfold Lj;by_cases c:Xx ags bad=0
 ·have hl:=P8 c;have hn:=H2 c;have c575:=QdH ags bad B0 (by omega);have c579:=fun o=>QdJ ags bad bad o B0 (by omega) hb hn;have hbl:=R9 ags bad ags;have hq:ags.length* (ags.length+1)≤6*7:=Nat.mul_le_mul (by omega) (by omega);have hbm:=TP (sm:=bad) hm ags hm;have c238:=fun o=>Iz (ags.map pkN ++ Yp ags bad ags) o B0 (by simp;omega) fun x hx=>by
   rcases List.mem_append.1 hx with hx | hx
   ·obtain⟨a,ha2,rfl⟩:=List.mem_map.1 hx;have:=NM (hm a ha2);unfold big;omega
   ·have:=hbm x hx;unfold big;omega
  have es:Yf (ags.map pkN ++ Yp ags bad ags)=Wl ags bad:=Qbx fun x=>by simp only[List.mem_append];exact Or.comm
  rw[es]at c238;have happ:encTs (ags.map pkN)++ encTs (Yp ags bad ags)=encTs (ags.map pkN ++ Yp ags bad ags):=by simp[Zq]
  have l1: (encTs (ags.map pkN)).length=ags.length:=by simp[Zq]
  have l2: (encTs (Yp ags bad ags)).length=(Yp ags bad ags).length:=by simp[Zq]
  have hby: (ags.length+ (Yp ags bad ags).length)*56≤140737488355328:=Yu (by omega);have hg:=encTs_gp (Wl ags bad);rw[c]at c572;generalize encTs (Wl ags bad)=E1 at *;generalize encTs (ags.map pkN ++ Yp ags bad ags)=E2 at *;generalize encTs (ags.map pkN)=E3 at *;generalize encTs (Yp ags bad ags)=E4 at *;simp only[QU]at *;simp[F.f571C,c572,c,c575,c579,l1,l2,hby,happ,c238,hg]
 ·simp only[QU]at *;simp[F.f571C,c572,c]
def Zj (ags bad:List Nm) (ks:List Tm):List AV:=[.sl false 1 (Za ags),.sl false 1 (Za bad),.sl false 4 (encTs ks)]
theorem Mp {ags bad:List Nm} (hm: ∀a∈ags,a.length≤1000) (c:Xx ags bad=0): (Wl ags bad).length < 100∧∀x∈Wl ags bad,x.mass < 10000:=by
 have hl:=P8 c;have hbl:=R9 ags bad ags;have hq:ags.length* (ags.length+1)≤6*7:=Nat.mul_le_mul (by omega) (by omega);constructor
 ·have:=NS (Yp ags bad ags ++ ags.map pkN);simp only[List.length_append,List.length_map]at this;unfold Wl;omega
 ·intro x hx;rcases List.mem_append.1 (W2.1 hx)with hx | hx
  ·exact TP hm ags hm x hx
  ·obtain⟨a,ha2,rfl⟩:=List.mem_map.1 hx;exact NM (hm a ha2)
theorem QaU (f g:Nat) (p:Tm→Bool) (l:List Tm) (bs:List (List AV)) (hc: ∀x∈l,call F.tb f [.agg (Qc x),.gp g 0] bs=some (.bool (p x),bs)) (hl:l.length < 1000000):
  ∀(post pre:List Tm) (o:Bool) (ρ:Nat→AV),l=pre ++ post→pre.any p=false→ρ 0= .sl o 4 (encTs l)→ρ 1= .fn f [.gp g 0]→ρ 7= .int .i64 l.length→ρ 8= .int .i64 pre.length→
  T6 (l.any p) bs (R F.tb (.loop F.f215l0) ρ bs (Qh 0 (Qq F.tb F.f215r0 (Qx F.f215 bs)))):=by
 intro post
 induction post with
 | nil=>
  intro pre o ρ hk hp h0 h1 h7 h8;simp only[List.append_nil]at hk;rw[← hk]at h8 hp;rw[Qb F.f215l0.eq_1];refine⟨-1,?_,by rw[hp];simp⟩;simp[h0,h1,h7,h8,F.f215r0]
 | cons x post IH=>
  intro pre o ρ hk hp h0 h1 h7 h8;have hgt:=Qn hk;have hll:=Qu hk;have hw1:=wr1 pre.length (by omega);have hlt:=Qv hk;have hcall:=hc x (by rw[hk];simp);have ih:=fun ρ hpp=>IH (pre ++ [x]) o ρ (by rw[hk];simp) hpp;rw[Qb F.f215l0.eq_1];cases ho:p x
  ·rw[ho]at hcall;have ih2:=fun ρ=>ih ρ (by rw[List.any_append,hp];simp[ho]);simp[h0,h1,h7,h8,hlt,hgt,hw1,hcall,-List.any_eq_false,-List.any_eq_true];apply ih2 <;> simp[h0,h1,h7]
  ·rw[ho]at hcall;have hany:l.any p=true:=List.any_eq_true.2 ⟨x,by rw[hk];simp,ho⟩;refine⟨pre.length,?_,by rw[hany];simp⟩;simp[h0,h1,h7,h8,hlt,hgt,hcall]
theorem Is (f g:Nat) (p:Tm→Bool) (l:List Tm) (o:Bool) (bs:List (List AV)) (hc: ∀x∈l,call F.tb f [.agg (Qc x),.gp g 0] bs=some (.bool (p x),bs)) (hl:l.length < 1000000):
  call F.tb 214 [.sl o 4 (encTs l),.fn f [.gp g 0]] bs=some (.bool (l.any p),bs):=by
 have h1:=fun ρ=>QaU f g p l bs hc hl l [] false ρ rfl rfl;have h2:T6 (l.any p) bs (call F.tb 215 [.sl false 4 (encTs l),.fn f [.gp g 0]] bs):=by
  rw[Qa F.tb_215 _ _ rfl];simp[F.f215C,-List.any_eq_false,-List.any_eq_true];apply h1 <;> simp
 obtain⟨i,hi,hb⟩:=h2;rw[Qa F.tb_214 _ _ rfl];simp[F.f214C,hi,-List.any_eq_false,-List.any_eq_true];cases hx:l.any p
 ·rw[hx]at hb;simp at hb;simpa using hb
 ·rw[hx]at hb;simp at hb;simpa using hb
theorem Bi (x y:Tm):decide (Qm y x=0)=decide (Qm x y=0):=decide_eq_decide.2 (by rw[YU,YU];exact eq_comm)
theorem QdC (x y:Tm) (bs:List (List AV)) (hx:x.mass < big) (hy:y.mass < big):call F.tb 507 [.agg (Qc x),.agg (Qc y)] bs=some (.bool (decide (Qm x y=0)),bs):=by
 have h:=call_Compare x y bs hx hy;rw[Qa F.tb_507 _ _ rfl];simp[F.f507C,h]
theorem QdB (x y:Tm) (g:Nat) (bs:List (List AV)) (hg:bs[g]? =some (Qc y)) (hx:x.mass < big) (hy:y.mass < big):call F.tb 506 [.agg (Qc x),.gp g 0] bs=some (.bool (decide (Qm x y=0)),bs):=by
 have h:=QdC y x bs hy hx;rw[Bi]at h;rw[Qa F.tb_506 _ _ rfl];simp[-getElem?_pos,F.f506C,hg,h]
theorem QdA (l:List Tm) (y:Tm) (o:Bool) (bs:List (List AV)) (hl:l.length < 1000000) (hm: ∀x∈l,x.mass < big) (hy:y.mass < big):
  call F.tb 505 [.sl o 4 (encTs l),.agg (Qc y)] bs=some (.bool (XA l y),bs):=by
 have hg: (bs ++ [Qc y])[bs.length]? =some (Qc y):=List.getElem?_concat_length;have h3:=Is 506 bs.length (fun x=>decide (Qm x y=0)) l false (bs ++ [Qc y]) (fun x hx=>QdB x y _ _ hg (hm x hx) hy) hl;change call F.tb 214 _ _=some (.bool (XA l y),_)at h3;rw[Qa F.tb_505 _ _ rfl];simp[F.f505C,h3]
theorem Qdy (t:Tm) (bs:List (List AV)) (hm:t.mass < 1000000):call F.tb 503 [.agg (Qc t)] bs=some (.int .i64 (QO t),bs):=by
 have hb:t.mass < big:=by unfold big;omega
 have h1:=Ts t bs hb;have h2:=LD t bs (by omega);have h3:=GM t bs hb;have hlen: (encTs (Wh t)).length=(Wh t).length:=by simp[Zq]
 rw[Qa F.tb_503 _ _ rfl];unfold QO;by_cases c:thV t=0
 ·rw[c]at h1;by_cases c2:Wh t=[]
  ·rw[c2]at h2;simp only[encTs]at h2;cases c3:Vo t
   ·rw[c3]at h3;simp[F.f503C,h1,h2,h3,c,c2]
   ·rw[c3]at h3;simp[F.f503C,h1,h2,h3,c,c2]
  ·have hpos: (0:Int) < ((Wh t).length:Int):=by
    have:=List.length_pos_iff.2 c2;omega
   generalize encTs (Wh t)=EV at *;simp[F.f503C,h1,h2,h3,c,c2,hlen,hpos]
 ·simp[F.f503C,h1,c]
def ND (ags bad:List Nm) (ks:List Tm):Int:=
 if Xx ags bad≠0 then Xx ags bad else if 60 < ks.length then 3 else if WA ks≠0 then WA ks else if(Wl ags bad).any (fun t=> !XA ks t)then 1 else 0
theorem Qdz (ags bad:List Nm) (ks:List Tm) (x:Tm) (g:Nat) (bs:List (List AV)) (hg:bs[g]? =some (Zj ags bad ks)) (hl:ks.length < 1000000) (hm: ∀y∈ks,y.mass < big) (hx:x.mass < big):
  call F.tb 504 [.agg (Qc x),.gp g 0] bs=some (.bool (!XA ks x),bs):=by
 have h:=QdA ks x false bs hl hm hx;simp only[Zj]at hg;rw[Qa F.tb_504 _ _ rfl];simp[-getElem?_pos,List.getElem?_cons_zero,F.f504C,hg,h]
theorem QiB (ags bad:List Nm) (ks:List Tm) (g:Nat) (B bs:List (List AV)) (hB:B=bs ++ [Zj ags bad ks]) (hgl:g=bs.length) (c:Xx ags bad=0) (hma: ∀a∈ags,a.length≤1000) (hl:ks.length < 1000000) (hm: ∀y∈ks,y.mass < 1000000):
  ∀(post pre:List Tm) (o o2:Bool) (ρ:Nat→AV),ks=pre ++ post→ρ 1= .gp g 0→ρ 3= .sl o2 4 (encTs (Wl ags bad))→ρ 22= .sl o 4 (encTs ks)→ρ 23= .int .i64 ks.length→ρ 24= .int .i64 pre.length→
  R F.tb (.loop F.f502l0) ρ B (Qh 0 (Qq F.tb F.f502r0 (Qx F.f502 bs)))=
   some (.int .i64 (if WA post≠0 then WA post else if(Wl ags bad).any (fun t=> !XA ks t)then 1 else 0),bs):=by
 obtain⟨f1,f2⟩:=Mp hma c;have hg:B[g]? =some (Zj ags bad ks):=by rw[hB,hgl];exact List.getElem?_concat_length
 subst hB;have hmb: ∀y∈ks,y.mass < big:=fun y hy=>by have:=hm y hy;unfold big;omega
 intro post
 induction post with
 | nil=>
  intro pre o o2 ρ hk h1 h3 h22 h23 h24;simp only[List.append_nil]at hk;rw[← hk]at h24;have h:=Is 504 g (fun t=> !XA ks t) (Wl ags bad) false (bs ++ [Zj ags bad ks]) (fun x hx=>Qdz ags bad ks x g _ hg hl hmb (by have:=f2 x hx;unfold big;omega)) (by omega);rw[Qb F.f502l0.eq_1];simp only[WA];generalize encTs (Wl ags bad)=EI at *;cases hA: (Wl ags bad).any (fun t=> !XA ks t)
  ·rw[hA]at h;simp[h1,h3,h22,h23,h24,F.f502r0,h]
  ·rw[hA]at h;simp[h1,h3,h22,h23,h24,F.f502r0,h]
 | cons x post IH=>
  intro pre o o2 ρ hk h1 h3 h22 h23 h24;have hgt:=Qn hk;have hll:=Qu hk;have hw1:=wr1 pre.length (by omega);have hlt:=Qv hk;have hc:=Qdy x (bs ++ [Zj ags bad ks]) (hm x (by rw[hk];simp));have ih:=fun ρ=>IH (pre ++ [x]) o o2 ρ (by rw[hk];simp);rw[Qb F.f502l0.eq_1];by_cases cx:QO x=0
  ·have e:WA (x:: post)=WA post:=by simp[WA,cx]
   rw[e];rw[cx]at hc;simp[h1,h3,h22,h23,h24,hgt,hlt,hw1,hc];have ih2:=ih;simp only[ne_eq,ite_not]at ih2;rw[ih2] <;> simp[h1,h3,h22,h23]
  ·have e:WA (x:: post)=QO x:=by simp[WA,cx]
   rw[e];simp[h1,h3,h22,h23,h24,hgt,hlt,hw1,hc,cx]
theorem Qdx (ags bad:List Nm) (ks:List Tm) (bs:List (List AV)) (ha:ags.length < 1000000) (hb:bad.length < 1000000) (hma: ∀a∈ags,a.length≤1000) (hl:ks.length < 1000000) (hm: ∀y∈ks,y.mass < 1000000):
  call F.tb 502 [.agg (Zj ags bad ks)] bs=some (.int .i64 (ND ags bad ks),bs):=by
 have c479:=Qdq ags bad (bs ++ [Zj ags bad ks]) ha hb hma;rw[Qa F.tb_502 _ _ rfl];unfold ND;unfold Lj at c479;by_cases c:Xx ags bad=0
 ·have h:=fun ρ=>QiB ags bad ks bs.length (bs ++ [Zj ags bad ks]) bs rfl rfl c hma hl hm ks [] false false ρ rfl;rw[c]at c479 ⊢;simp only[QU,Zj]at *;simp at c479;by_cases c6:60 < ks.length
  ·have c6i: (60:Int) < (ks.length:Int):=by omega
   simp[F.f502C,c479,c6,c6i]
  ·have c6i: ¬(60:Int) < (ks.length:Int):=by omega
   simp[F.f502C,c479,c6,c6i];have h2:=h;simp only[ne_eq,ite_not]at h2;rw[h2] <;> simp
 ·simp only[QU,Zj,ne_eq,c,not_false_eq_true,if_true]at c479 ⊢;simp[F.f502C,c479,c]
theorem QiA (ags bad:List Nm) (ks:List Tm) (L:List Tm) (bs:List (List AV)) (hL:L.length < 1000000) (hLm: ∀y∈L,y.mass < big) (hl:ks.length < 1000000) (hm: ∀y∈ks,y.mass < big):
  ∀(post pre:List Tm) (o:Bool) (ρ:Nat→AV),L=pre ++ post→ρ 1= .bx (Zj ags bad ks)→ρ 6= .sl o 4 (encTs L)→ρ 8= .int .i64 pre.length→
  R F.tb (.loop F.f587l1) ρ bs (Qh 2 (Qq F.tb F.f587r0 (Qx F.f587 bs)))=some (.int .i64 (if post.any (fun t=> !XA ks t)then 1 else 0),bs):=by
 intro post
 induction post with
 | nil=>
  intro pre o ρ hk h1 h6 h8;simp only[List.append_nil]at hk;rw[← hk]at h8;simp only[Zj]at h1;rw[Qb F.f587l1.eq_1];simp[h1,h6,h8,F.f587r0]
 | cons x post IH=>
  intro pre o ρ hk h1 h6 h8;have hgt:=Qn hk;have hll:=Qu hk;have hw1:=wr1 pre.length (by omega);have hlt:=Qv hk;have hc:=Iw ks x false bs (by omega) hm (hLm x (by rw[hk];simp));have ih:=fun ρ=>IH (pre ++ [x]) o ρ (by rw[hk];simp);simp only[Zj]at h1 ih;rw[Qb F.f587l1.eq_1];cases hx:XA ks x
  ·rw[hx]at hc;have e: (x:: post).any (fun t=> !XA ks t)=true:=by simp[hx]
   rw[e];simp[h1,h6,h8,hgt,hlt,hw1,hc]
  ·rw[hx]at hc;have e: (x:: post).any (fun t=> !XA ks t)=post.any (fun t=> !XA ks t):=by simp[hx]
   rw[e];simp[h1,h6,h8,hgt,hlt,hw1,hc,-List.any_eq_true];rw[ih] <;> simp[h1,h6]
theorem Qiz (ags bad:List Nm) (ks:List Tm) (bs:List (List AV)) (c:Xx ags bad=0) (ha:ags.length < 1000000) (hb:bad.length < 1000000) (hma: ∀a∈ags,a.length≤1000) (hl:ks.length < 1000000) (hm: ∀y∈ks,y.mass < 1000000):
  ∀(post pre:List Tm) (ρ:Nat→AV),ks=pre ++ post→ρ 1= .bx (Zj ags bad ks)→ρ 4= .int .i64 pre.length→
  R F.tb (.loop F.f587l0) ρ bs (Qh 0 (Qq F.tb F.f587r1 (Qx F.f587 bs)))=
   some (.int .i64 (if WA post≠0 then WA post else if(Wl ags bad).any (fun t=> !XA ks t)then 1 else 0),bs):=by
 obtain⟨f1,f2⟩:=Mp hma c;have hmb: ∀y∈ks,y.mass < big:=fun y hy=>by have:=hm y hy;unfold big;omega
 intro post
 induction post with
 | nil=>
  intro pre ρ hk h1 h4;simp only[List.append_nil]at hk;rw[← hk]at h4;have c571:=QdF ags bad bs ha hb hma;unfold Lj at c571;rw[c]at c571;have h:=fun o ρ=>QiA ags bad ks (Wl ags bad) bs (by omega) (fun y hy=>by have:=f2 y hy;unfold big;omega) hl hmb (Wl ags bad) [] o ρ rfl;rw[Qb F.f587l0.eq_1];simp only[WA];simp only[Zj,QU]at h1 c571 h;generalize encTs (Wl ags bad)=EI at *;simp at c571;simp[h1,h4,F.f587r1,c571,-List.any_eq_true];refine h false _ ?_ ?_ ?_ <;> simp[h1]
 | cons x post IH=>
  intro pre ρ hk h1 h4;have hgt:=Qn hk;have hll:=Qu hk;have hw1:=wr1 pre.length (by omega);have hlt:=Qv hk;have hc:=OU x bs (hm x (by rw[hk];simp));have ih:=fun ρ=>IH (pre ++ [x]) ρ (by rw[hk];simp);simp only[Zj]at h1 ih;rw[Qb F.f587l0.eq_1];by_cases cx:QO x=0
  ·have e:WA (x:: post)=WA post:=by simp[WA,cx]
   rw[e];rw[cx]at hc;simp[h1,h4,hgt,hlt,hw1,hc,-List.any_eq_true];have ih2:=ih;simp only[ne_eq,ite_not]at ih2;rw[ih2] <;> simp[h1]
  ·have e:WA (x:: post)=QO x:=by simp[WA,cx]
   rw[e];simp[h1,h4,hgt,hlt,hw1,hc,cx]
theorem QdM (ags bad:List Nm) (ks:List Tm) (bs:List (List AV)) (ha:ags.length < 1000000) (hb:bad.length < 1000000) (hma: ∀a∈ags,a.length≤1000) (hl:ks.length < 1000000) (hm: ∀y∈ks,y.mass < 1000000):
  call F.tb 587 [.agg (Zj ags bad ks)] bs=some (.int .i64 (ND ags bad ks),bs):=by
 have c572:=G4 ags bad bs ha hb fun a h=>by have:=hma a h;omega
 rw[Qa F.tb_587 _ _ rfl];unfold ND;by_cases c:Xx ags bad=0
 ·have h:=fun ρ=>Qiz ags bad ks bs c ha hb hma hl hm ks [] ρ rfl;rw[c]at c572 ⊢;simp only[QU,Zj]at c572 h ⊢;by_cases c6:60 < ks.length
  ·have c6i: (60:Int) < (ks.length:Int):=by omega
   simp[F.f587C,c572,c6,c6i]
  ·have c6i: ¬(60:Int) < (ks.length:Int):=by omega
   simp[F.f587C,c572,c6,c6i,-List.any_eq_true];have h2:=h;simp only[ne_eq,ite_not]at h2;rw[h2] <;> simp
 ·simp only[QU,Zj]at c572 ⊢;simp[F.f587C,c572,c]
def Lg (ags bad:List Nm) (ks:List Tm):Bool:=Tu (ags ++ bad) && few ks 70 400
theorem QdL (ags bad:List Nm) (ks:List Tm) (bs:List (List AV)) (ha:ags.length < 10000000000) (hb:bad.length < 10000000000):call F.tb 585 [.agg (Zj ags bad ks)] bs=some (.bool (Lg ags bad ks),bs):=by
 have h1:=QdE ags bad bs ha hb;have h2:call F.tb 101 [.sl false 4 (encTs ks),.int .i64 70,.int .i64 400] bs=some (.bool (few ks 70 400),bs):=Ny ks false 70 400 bs (by omega) (by omega) (by omega);rw[Qa F.tb_585 _ _ rfl];unfold Lg;simp only[QU,Zj]at *;generalize few ks 70 400=X at *;cases hf:Tu (ags ++ bad)
 ·rw[hf]at h1;simp[F.f585C,h1]
 ·rw[hf]at h1;simp[F.f585C,h1,h2]
theorem QdN (ags bad:List Nm) (ks:List Tm) (t:Tm) (bs:List (List AV)) (ha:ags.length < 10000000000) (hb:bad.length < 10000000000):call F.tb 590 [.agg (Zj ags bad ks),.agg (Qc t)] bs=some (.bool (Lg ags bad ks && few [t] 1 60),bs):=by
 have h1:=QdL ags bad ks bs ha hb;have h2: ∀o,call F.tb 101 [.sl o 4 [Qc t],.int .i64 1,.int .i64 60] bs=some (.bool (few [t] 1 60),bs):=fun o=>Ny [t] o 1 60 bs (by omega) (by omega) (by omega);rw[Qa F.tb_590 _ _ rfl];simp only[Zj]at *;generalize few [t] 1 60=X at *;cases hf:Lg ags bad ks
 ·rw[hf]at h1;simp[F.f590C,h1]
 ·rw[hf]at h1;simp[F.f590C,h1,h2]
structure Ded where
 r:Int
 n:Int
 a:List Int
 c:List Int
 t:Tm
def Yr (l:List Int):List (List AV):=l.map fun i=>[AV.int .i64 i]
@[simp] theorem QjB (l:List Int): (Yr l).length=l.length:=by simp[Yr]
@[simp] theorem QjA (l:List Int) (i:Nat): (Yr l)[i]? =(l[i]?).map fun i=>[AV.int .i64 i]:=by simp[Yr]
@[simp] theorem Fb: ∀l:List Int,gpfreeE (Yr l)=true
 | []=>rfl
 | i:: l=>by
  have:=Fb l;simp only[Yr]at this ⊢;simp[gpfreeE,gpfreeL,AV.gpfree,this]
def Zi (d:Ded):List AV:=[.int .i64 d.r,.int .i64 d.n,.sl false 1 (Yr d.a),.sl false 1 (Yr d.c)]++ Qc d.t
theorem XN (d:Ded):Zi d=[.int .i64 d.r,.int .i64 d.n,.sl false 1 (Yr d.a),.sl false 1 (Yr d.c),.int .i64 d.t.kind,.str d.t.name,.int .i64 d.t.sort,.sl false 4 (encTs d.t.kids)]:=by
 simp[Zi,QS]
@[simp] theorem Qi8 (d:Ded): (Zi d).length=8:=by simp[XN]
@[simp] theorem QhK (d:Ded): (Zi d).map AV.strip=Zi d:=by simp[XN]
@[simp] theorem QhL (d:Ded): (Zi d).take 8=Zi d:=List.take_of_length_le (by simp)
@[simp] theorem QhI (d:Ded): (Zi d).drop 4=Qc d.t:=by simp[Zi]
@[simp] theorem QhJ (d:Ded): (Zi d).drop 8=[]:=by simp[XN]
@[simp] theorem QjL (d:Ded): (Zi d)[0]? =some (.int .i64 d.r):=by simp[XN]
@[simp] theorem QjM (d:Ded): (Zi d)[1]? =some (.int .i64 d.n):=by simp[XN]
@[simp] theorem QjN (d:Ded): (Zi d)[2]? =some (.sl false 1 (Yr d.a)):=by simp[XN]
@[simp] theorem QjO (d:Ded): (Zi d)[3]? =some (.sl false 1 (Yr d.c)):=by simp[XN]
@[simp] theorem Qjv (d:Ded) (h:0 < (Zi d).length): (Zi d)[0]= .int .i64 d.r:=by simp[XN]
@[simp] theorem Qjw (d:Ded) (h:1 < (Zi d).length): (Zi d)[1]= .int .i64 d.n:=by simp[XN]
@[simp] theorem Qjx (d:Ded) (h:2 < (Zi d).length): (Zi d)[2]= .sl false 1 (Yr d.a):=by simp[XN]
@[simp] theorem Qjy (d:Ded) (h:3 < (Zi d).length): (Zi d)[3]= .sl false 1 (Yr d.c):=by simp[XN]
@[simp] theorem Qjz (d:Ded):gpfreeL (Zi d)=true:=by simp[Zi,gpfreeL,AV.gpfree,OY]
def ZX (l:List Ded):List (List AV):=l.map Zi
@[simp] theorem Qit (l:List Ded): (ZX l).length=l.length:=by simp[ZX]
@[simp] theorem Qis (l:List Ded) (i:Nat): (ZX l)[i]? =(l[i]?).map Zi:=by simp[ZX]
@[simp] theorem Bk: ∀l:List Ded,gpfreeE (ZX l)=true
 | []=>rfl
 | p:: l=>by
  have:=Bk l;simp only[ZX]at this ⊢;simp[gpfreeE,this]
theorem Ud (x y:Tm) (bs:List (List AV)) (hx:x.mass < big) (hy:y.mass < big):call F.tb 350 [.agg (Qc x),.agg (Qc y)] bs=some (.bool (decide (Qm x y=0)),bs):=by
 have h:=call_Compare x y bs hx hy;rw[Qa F.tb_350 _ _ rfl];simp[F.f350C,h]
abbrev isN (t:Tm) (n:List UInt8):Bool:=isB t n
theorem GW (t:Tm) (n:List UInt8) (bs:List (List AV)):call F.tb 360 [.agg (Qc t),.str n] bs=some (.bool (isN t n),bs):=by
 rw[Qa F.tb_360 _ _ rfl,QS];unfold isN isB;by_cases c:t.kind=3
 ·simp[F.f360C,c]
 ·simp[F.f360C,c]
def Xe (t:Tm) (n:List UInt8) (i:Nat) (u:Tm):Bool:=isN t n && (match t.kids[i]? with | some k=>decide (Qm k u=0) | none=>false)
theorem Tb (t:Tm) (n:List UInt8) (i:Nat) (u:Tm) (bs:List (List AV)) (hi:isN t n=true→i < t.kids.length) (hm:t.mass < big) (hu:u.mass < big) (hi2:i < 10):
  call F.tb 359 [.agg (Qc t),.str n,.int .i64 i,.agg (Qc u)] bs=some (.bool (Xe t n i u),bs):=by
 have h1:=GW t n bs;rw[Qa F.tb_359 _ _ rfl];unfold Xe;cases c:isN t n
 ·rw[c]at h1;simp[F.f359C,h1]
 ·rw[c]at h1;have hil:=hi c;have hk:t.kids[i]? =some t.kids[i]:=List.getElem?_eq_getElem hil;have hkm:t.kids[i].mass < big:=Pr hm (List.getElem_mem _);have h2:=Ud t.kids[i] u bs hkm hu;have e1:=QS t;rw[hk];generalize t.kids[i]=k at *;simp only[e1]at h1 ⊢;simp[-getElem?_pos,QL,List.getElem?_cons_zero,List.getElem?_cons_succ,F.f359C,h1,h2,e1,hk]
def MH:List (List UInt8×Int):=[([],0),([103,105,118,101,110],0),([112,117,98,108,105,99],0),([112,97,105,114],2),([102,105,114,115,116],1),([115,101,99,111,110,100],1),([101,110,99],2),([100,101,99],2),([97,101,110,99],2),([97,100,101,99],2),([112,107],1),([115,105,103,110],2),([114,101,97,100],1),([104,97,115,104],1),([115,117,109],-1),([112,111,119,101,114],-2),([112,114,111,100,117,99,116],-1)]
def rOk (r:Int):Bool:=decide (1≤r) && decide (r≤16)
def YE (r:Int):List UInt8:=if rOk r then(MH[r.toNat]?.getD ([],0)).1 else []
def Yb (r:Int):Int:=if rOk r then(MH[r.toNat]?.getD ([],0)).2 else 0
theorem UI {r:Int} (h:rOk r=true):r=1∨r=2∨r=3∨r=4∨r=5∨r=6∨r=7∨r=8∨r=9∨r=10∨r=11∨r=12∨r=13∨r=14∨r=15∨r=16:=by
 simp[rOk]at h;omega
theorem GV (r:Int) (bs:List (List AV)):call F.tb 353 [.int .i64 r] bs=some (.tup [.agg [.str (YE r),.int .i64 (Yb r)],.bool (rOk r)],bs):=by
 cases h:rOk r
 ·rw[Qa F.tb_353 _ _ rfl];have h2:r < 1∨17≤r:=by
   simp[rOk]at h;omega
  have ew:YE r=[]:=by simp[YE,h]
  have ea:Yb r=0:=by simp[Yb,h]
  rw[ew,ea];by_cases c:r < 1
  ·simp[F.f353C,c]
  ·have c2: (17:Int)≤r:=by omega
   simp[F.f353C,c,c2]
 ·rcases UI h with rfl | rfl | rfl | rfl | rfl | rfl | rfl | rfl | rfl | rfl | rfl | rfl | rfl | rfl | rfl | rfl <;>
   (rw[Qa F.tb_353 _ _ rfl];simp[F.f353C,YE,Yb,rOk,MH])
theorem Qdm (r:Int) (bs:List (List AV)):call F.tb 386 [.int .i64 r] bs=some (.tup [.str (YE r),.int .i64 (Yb r)],bs):=by
 cases h:rOk r
 ·rw[Qa F.tb_386 _ _ rfl];have h2:r < 1∨17≤r:=by
   simp[rOk]at h;omega
  have ew:YE r=[]:=by simp[YE,h]
  have ea:Yb r=0:=by simp[Yb,h]
  rw[ew,ea];by_cases c:r < 1
  ·simp[F.f386C,c]
  ·have c2: (16:Int) < r:=by omega
   simp[F.f386C,c,c2]
 ·rcases UI h with rfl | rfl | rfl | rfl | rfl | rfl | rfl | rfl | rfl | rfl | rfl | rfl | rfl | rfl | rfl | rfl <;>
   (rw[Qa F.tb_386 _ _ rfl];simp[F.f386C,YE,Yb,rOk,MH,show IntKind.i64.wrap 0=0 from rfl,show IntKind.i64.wrap 1=1 from rfl,show IntKind.i64.wrap 2=2 from rfl,show IntKind.i64.wrap 3=3 from rfl,show IntKind.i64.wrap 4=4 from rfl,show IntKind.i64.wrap 5=5 from rfl,show IntKind.i64.wrap 6=6 from rfl,show IntKind.i64.wrap 7=7 from rfl,show IntKind.i64.wrap 8=8 from rfl,show IntKind.i64.wrap 9=9 from rfl,show IntKind.i64.wrap 10=10 from rfl,show IntKind.i64.wrap 11=11 from rfl,show IntKind.i64.wrap 12=12 from rfl,show IntKind.i64.wrap 13=13 from rfl,show IntKind.i64.wrap 14=14 from rfl,show IntKind.i64.wrap 15=15 from rfl])
def Uq (d:Ded):Int:=if d.r=15 then(d.a.length:Int) - 1 else if d.r=16 then d.a.length else 0
theorem Qc7 (d:Ded) (bs:List (List AV)) (hl:d.a.length < 1000000):call F.tb 354 [.agg (Zi d)] bs=some (.int .i64 (Uq d),bs):=by
 have hw:IntKind.i64.wrap ((d.a.length:Int) - 1)=(d.a.length:Int) - 1:=QW (by omega) (by omega);rw[Qa F.tb_354 _ _ rfl];unfold Uq;by_cases c:d.r=15
 ·simp[F.f354C,c,hw]
 ·by_cases c2:d.r=16
  ·simp[F.f354C,c2]
  ·simp[F.f354C,c,c2]
theorem Qdn (d:Ded) (bs:List (List AV)) (hl:d.a.length < 1000000):call F.tb 387 [.agg (Zi d)] bs=some (.int .i64 (Uq d),bs):=by
 have hw:IntKind.i64.wrap ((d.a.length:Int) - 1)=(d.a.length:Int) - 1:=QW (by omega) (by omega);rw[Qa F.tb_387 _ _ rfl];unfold Uq;by_cases c:d.r=15
 ·simp[F.f387C,c,hw]
 ·by_cases c2:d.r=16
  ·simp[F.f387C,c2]
  ·simp[F.f387C,c,c2]
theorem QaV (f:Nat) (cs:List AV) (p:Int→Bool) (l:List Int) (bs:List (List AV)) (hc: ∀x∈l,call F.tb f (.int .i64 x:: cs) bs=some (.bool (p x),bs)) (hl:l.length < 1000000) (hok: ∀x∈cs,x.ok=true):
  ∀(post pre:List Int) (o:Bool) (ρ:Nat→AV),l=pre ++ post→pre.any p=false→ρ 0= .sl o 1 (Yr l)→ρ 1= .fn f cs→ρ 7= .int .i64 l.length→ρ 8= .int .i64 pre.length→
  T6 (l.any p) bs (R F.tb (.loop F.f357l0) ρ bs (Qh 0 (Qq F.tb F.f357r0 (Qx F.f357 bs)))):=by
 intro post
 induction post with
 | nil=>
  intro pre o ρ hk hp h0 h1 h7 h8;simp only[List.append_nil]at hk;rw[← hk]at h8 hp;rw[Qb F.f357l0.eq_1];refine⟨-1,?_,by rw[hp];simp⟩;simp[h0,h1,h7,h8,F.f357r0]
 | cons x post IH=>
  intro pre o ρ hk hp h0 h1 h7 h8;have hgt:=Qn hk;have hll:=Qu hk;have hw1:=wr1 pre.length (by omega);have hlt:=Qv hk;have hcall:=hc x (by rw[hk];simp);have ih:=fun ρ hpp=>IH (pre ++ [x]) o ρ (by rw[hk];simp) hpp;rw[Qb F.f357l0.eq_1];cases ho:p x
  ·rw[ho]at hcall;have ih2:=fun ρ=>ih ρ (by rw[List.any_append,hp];simp[ho]);simp[h0,h1,h7,h8,hlt,hgt,hw1,hcall,eq_true hok,-List.any_eq_false,-List.any_eq_true];apply ih2 <;> simp[h0,h1,h7]
  ·rw[ho]at hcall;have hany:l.any p=true:=List.any_eq_true.2 ⟨x,by rw[hk];simp,ho⟩;refine⟨pre.length,?_,by rw[hany];simp⟩;simp[h0,h1,h7,h8,hlt,hgt,hcall,eq_true hok]
theorem M9 (f:Nat) (cs:List AV) (p:Int→Bool) (l:List Int) (o:Bool) (bs:List (List AV)) (hc: ∀x∈l,call F.tb f (.int .i64 x:: cs) bs=some (.bool (p x),bs)) (hl:l.length < 1000000) (hok: ∀x∈cs,x.ok=true):
  call F.tb 356 [.sl o 1 (Yr l),.fn f cs] bs=some (.bool (l.any p),bs):=by
 have h1:=fun ρ=>QaV f cs p l bs hc hl hok l [] false ρ rfl rfl;have h2:T6 (l.any p) bs (call F.tb 357 [.sl false 1 (Yr l),.fn f cs] bs):=by
  rw[Qa F.tb_357 _ _ rfl];simp[F.f357C,eq_true hok,-List.any_eq_false,-List.any_eq_true];apply h1 <;> simp
 obtain⟨i,hi,hb⟩:=h2;rw[Qa F.tb_356 _ _ rfl];simp[F.f356C,eq_true hok,hi,-List.any_eq_false,-List.any_eq_true];cases hx:l.any p
 ·rw[hx]at hb;simp at hb;simpa using hb
 ·rw[hx]at hb;simp at hb;simpa using hb
def ZB (c:Int):Bool:=decide (c < -35184372088832) || decide (35184372088832 < c)
theorem Qc9 (c:Int) (bs:List (List AV)):call F.tb 358 [.int .i64 c] bs=some (.bool (ZB c),bs):=by
 rw[Qa F.tb_358 _ _ rfl];unfold ZB;by_cases h:c < -35184372088832
 ·simp[F.f358C,h]
 ·simp[F.f358C,h]
theorem Qde (c:Int) (bs:List (List AV)):call F.tb 368 [.int .i64 c] bs=some (.bool (ZB c),bs):=by
 rw[Qa F.tb_368 _ _ rfl];unfold ZB;by_cases h:c < -35184372088832
 ·simp[F.f368C,h]
 ·simp[F.f368C,h]
def W5 (i a:Int):Bool:=decide (a < 0) || decide (i≤a)
theorem Qc8 (a i:Int) (g:Nat) (bs:List (List AV)) (hg:bs[g]? =some [.int .i64 i]):call F.tb 355 [.int .i64 a,.gp g 0] bs=some (.bool (W5 i a),bs):=by
 rw[Qa F.tb_355 _ _ rfl];unfold W5;by_cases h:a < 0
 ·simp[-getElem?_pos,QL,List.getElem?_cons_zero,F.f355C,h,hg]
 ·simp[-getElem?_pos,QL,List.getElem?_cons_zero,F.f355C,h,hg]
def f6B (d:Ded):Bool:=(decide (0≤Yb d.r) && !decide ((d.a.length:Int)=Yb d.r)) || (decide (Yb d.r= -2) && decide (d.a.length=0)) || !decide ((d.c.length:Int)=Uq d)
def fNB (d:Ded):Bool:=decide (d.n < 0) || decide (1000000 < d.n) || (!decide (d.n=0) && !decide (d.r=1))
def Vs (d:Ded) (i:Int):Int:=if rOk d.r=false then 1 else if f6B d then 6 else if d.a.any (W5 i)then 7 else if fNB d then 7 else if d.c.any ZB then 7 else 0
theorem Qc6 (d:Ded) (i:Int) (bs:List (List AV)) (ha:d.a.length < 1000000) (hc:d.c.length < 1000000):call F.tb 352 [.agg (Zi d),.int .i64 i] bs=some (.int .i64 (Vs d i),bs):=by
 have c353:=fun b=>GV d.r b;have c354:=fun b=>Qc7 d b ha;have hg: (bs ++ [[AV.int .i64 i]])[bs.length]? =some [.int .i64 i]:=List.getElem?_concat_length;have c356:=M9 355 [.gp bs.length 0] (W5 i) d.a false (bs ++ [[.int .i64 i]]) (fun a _=>Qc8 a i bs.length _ hg) ha (by simp[AV.ok]);have c356b:=M9 358 [] ZB d.c false (bs ++ [[.int .i64 i]]) (fun c _=>Qc9 c _) hc (by simp);rw[Qa F.tb_352 _ _ rfl];unfold Vs f6B fNB;cases h1:rOk d.r
 ·rw[h1]at c353;simp[F.f352C,c353]
 ·rw[h1]at c353;generalize hA:d.a.any (W5 i)=A at *;generalize hC:d.c.any ZB=C at *;have lz: (d.a.length:Int)=0↔d.a.length=0:=by omega
  by_cases c1:0≤Yb d.r
  ·have c3: ¬Yb d.r= -2:=by omega
   by_cases c2: (d.a.length:Int)=Yb d.r
   ·by_cases c5: (d.c.length:Int)=Uq d
    ·cases A
     ·by_cases n1:d.n < 0
      ·simp[F.f352C,c353,c354,c356,c356b,c1,c2,c3,c5,n1]
      ·by_cases n2:1000000 < d.n
       ·simp[F.f352C,c353,c354,c356,c356b,c1,c2,c3,c5,n1,n2]
       ·by_cases n3:d.n=0
        ·cases C <;> simp[F.f352C,c353,c354,c356,c356b,c1,c2,c3,c5,n3]
        ·by_cases n4:d.r=1
         ·simp only[n4]at c353 c1 c2 c3 c5 ⊢;cases C <;> simp[F.f352C,c353,c354,c356,c356b,c1,c2,c3,c5,n1,n2,n3,n4]
         ·simp[F.f352C,c353,c354,c356,c356b,c1,c2,c3,c5,n1,n2,n3,n4]
     ·simp[F.f352C,c353,c354,c356,c356b,c1,c2,c3,c5]
    ·simp[F.f352C,c353,c354,c356,c356b,c1,c2,c3,c5]
   ·simp[F.f352C,c353,c354,c356,c356b,c1,c2,c3]
  ·by_cases c4:Yb d.r= -2∧d.a.length=0
   ·obtain⟨c3,c4⟩:=c4;simp[F.f352C,c353,c354,c356,c356b,c1,c3,c4,lz]
   ·by_cases c5: (d.c.length:Int)=Uq d
    ·cases A
     ·by_cases c3:Yb d.r= -2
      ·have c4': ¬d.a.length=0:=fun e=>c4 ⟨c3,e⟩;by_cases n1:d.n < 0
       ·simp[F.f352C,c353,c354,c356,c356b,c1,c3,c4',lz,c5,n1]
       ·by_cases n2:1000000 < d.n
        ·simp[F.f352C,c353,c354,c356,c356b,c1,c3,c4',lz,c5,n1,n2]
        ·by_cases n3:d.n=0
         ·cases C <;> simp[F.f352C,c353,c354,c356,c356b,c1,c3,c4',lz,c5,n3]
         ·by_cases n4:d.r=1
          ·simp only[n4]at c353 c1 c3 c5 ⊢;cases C <;> simp[F.f352C,c353,c354,c356,c356b,c1,c3,c4',lz,c5,n1,n2,n3,n4]
          ·simp[F.f352C,c353,c354,c356,c356b,c1,c3,c4',lz,c5,n1,n2,n3,n4]
      ·by_cases n1:d.n < 0
       ·simp[F.f352C,c353,c354,c356,c356b,c1,c3,c5,n1]
       ·by_cases n2:1000000 < d.n
        ·simp[F.f352C,c353,c354,c356,c356b,c1,c3,c5,n1,n2]
        ·by_cases n3:d.n=0
         ·cases C <;> simp[F.f352C,c353,c354,c356,c356b,c1,c3,c5,n3]
         ·by_cases n4:d.r=1
          ·simp only[n4]at c353 c1 c3 c5 ⊢;cases C <;> simp[F.f352C,c353,c354,c356,c356b,c1,c3,c5,n1,n2,n3,n4]
          ·simp[F.f352C,c353,c354,c356,c356b,c1,c3,c5,n1,n2,n3,n4]
     ·by_cases c3:Yb d.r= -2
      ·have c4': ¬d.a.length=0:=fun e=>c4 ⟨c3,e⟩;simp[F.f352C,c353,c354,c356,c356b,c1,c3,c4',lz,c5]
      ·simp[F.f352C,c353,c354,c356,c356b,c1,c3,c5]
    ·by_cases c3:Yb d.r= -2
     ·have c4': ¬d.a.length=0:=fun e=>c4 ⟨c3,e⟩;simp[F.f352C,c353,c354,c356,c356b,c1,c3,c4',lz,c5]
     ·simp[F.f352C,c353,c354,c356,c356b,c1,c3,c5]
theorem QiK (d:Ded) (bs:List (List AV)) (hc:d.c.length < 1000000):
  ∀(post pre:List Int) (ρ:Nat→AV),d.c=pre ++ post→ρ 2= .bx (Zi d)→ρ 8= .int .i64 pre.length→
  R F.tb (.loop F.f385l1) ρ bs (Qh 2 (Qq F.tb F.f385r0 (Qx F.f385 bs)))=some (.int .i64 (if post.any ZB then 7 else 0),bs):=by
 intro post
 induction post with
 | nil=>
  intro pre ρ hk h2 h8;simp only[List.append_nil]at hk;rw[← hk]at h8;rw[Qb F.f385l1.eq_1];simp[h2,h8,F.f385r0]
 | cons x post IH=>
  intro pre ρ hk h2 h8;have hgt:=Qn hk;have hll:=Qu hk;have hw1:=wr1 pre.length (by omega);have hlt:=Qv hk;have ih:=fun ρ=>IH (pre ++ [x]) ρ (by rw[hk];simp);rw[Qb F.f385l1.eq_1];by_cases c1:x < -35184372088832
  ·have e: (x:: post).any ZB=true:=by simp[ZB,c1]
   rw[e];simp[h2,h8,hlt,hgt,c1]
  ·by_cases c2:35184372088832 < x
   ·have e: (x:: post).any ZB=true:=by simp[ZB,c2]
    rw[e];simp[h2,h8,hlt,hgt,c1,c2]
   ·have e: (x:: post).any ZB=post.any ZB:=by simp[ZB,c1,c2]
    rw[e];generalize post.any ZB=X at *;simp[h2,h8,hlt,hgt,c1,c2,hw1];apply ih <;> simp[h2]
theorem QiL (d:Ded) (bs:List (List AV)) (hc:d.c.length < 1000000) (ρ:Nat→AV) (h2:ρ 2= .bx (Zi d)):
  R F.tb F.f385r1 ρ bs (Qx F.f385 bs)=some (.int .i64 (if fNB d then 7 else if d.c.any ZB then 7 else 0),bs):=by
 have h:=fun ρ=>QiK d bs hc d.c [] ρ rfl;unfold fNB;generalize d.c.any ZB=X at *;by_cases n1:d.n < 0
 ·simp[F.f385r1,h2,n1]
 ·by_cases n2:1000000 < d.n
  ·simp[F.f385r1,h2,n1,n2]
  ·by_cases n3:d.n=0
   ·simp[F.f385r1,h2,n3];apply h <;> simp[h2]
   ·by_cases n4:d.r=1
    ·simp[F.f385r1,h2,n1,n2,n3,n4];apply h <;> simp[h2]
    ·simp[F.f385r1,h2,n1,n2,n3,n4]
theorem QiJ (d:Ded) (i:Int) (bs:List (List AV)) (ha:d.a.length < 1000000) (hc:d.c.length < 1000000):
  ∀(post pre:List Int) (ρ:Nat→AV),d.a=pre ++ post→ρ 1= .int .i64 i→ρ 2= .bx (Zi d)→ρ 7= .int .i64 pre.length→
  R F.tb (.loop F.f385l0) ρ bs (Qh 0 (Qq F.tb F.f385r1 (Qx F.f385 bs)))=some (.int .i64 (if post.any (W5 i)then 7 else if fNB d then 7 else if d.c.any ZB then 7 else 0),bs):=by
 intro post
 induction post with
 | nil=>
  intro pre ρ hk h1 h2 h7;simp only[List.append_nil]at hk;rw[← hk]at h7;have h:=fun ρ h2=>QiL d bs hc ρ h2;rw[Qb F.f385l0.eq_1];simp[h1,h2,h7];rw[h] <;> simp[h2]
 | cons x post IH=>
  intro pre ρ hk h1 h2 h7;have hgt:=Qn hk;have hll:=Qu hk;have hw1:=wr1 pre.length (by omega);have hlt:=Qv hk;have ih:=fun ρ=>IH (pre ++ [x]) ρ (by rw[hk];simp);rw[Qb F.f385l0.eq_1];by_cases c1:x < 0
  ·have e: (x:: post).any (W5 i)=true:=by simp[W5,c1]
   rw[e];simp[h1,h2,h7,hlt,hgt,c1]
  ·by_cases c2:i≤x
   ·have e: (x:: post).any (W5 i)=true:=by simp[W5,c2]
    rw[e];simp[h1,h2,h7,hlt,hgt,c1,c2]
   ·have e: (x:: post).any (W5 i)=post.any (W5 i):=by simp[W5,c1,c2]
    rw[e];generalize post.any (W5 i)=X at *;generalize d.c.any ZB=Y at *;simp[h1,h2,h7,hlt,hgt,c1,c2,hw1];apply ih <;> simp[h1,h2]
theorem L4 (r:Int):YE r=[]↔rOk r=false:=by
 cases h:rOk r
 ·simp[YE,h]
 ·rcases UI h with rfl | rfl | rfl | rfl | rfl | rfl | rfl | rfl | rfl | rfl | rfl | rfl | rfl | rfl | rfl | rfl <;> simp[YE,rOk,MH]
theorem Qdl (d:Ded) (i:Int) (bs:List (List AV)) (ha:d.a.length < 1000000) (hc:d.c.length < 1000000):call F.tb 385 [.agg (Zi d),.int .i64 i] bs=some (.int .i64 (Vs d i),bs):=by
 have c386:=Qdm d.r bs;have c387:=Qdn d bs ha;have h:=fun ρ=>QiJ d i bs ha hc d.a [] ρ rfl;rw[Qa F.tb_385 _ _ rfl];unfold Vs f6B;cases h1:rOk d.r
 ·have ew:=(L4 d.r).2 h1;rw[ew]at c386;simp[F.f385C,c386]
 ·have ew: ¬YE d.r=[]:=fun e=>by rw[(L4 d.r).1 e]at h1;cases h1
  have ewe: (YE d.r).isEmpty=false:=by
   cases h:YE d.r with
   | nil=>exact absurd h ew
   | cons a b=>rfl
  generalize YE d.r=w at *;generalize d.a.any (W5 i)=A at *;generalize d.c.any ZB=C at *;have lz: (d.a.length:Int)=0↔d.a.length=0:=by omega
  by_cases c1:0≤Yb d.r
  ·have c3: ¬Yb d.r= -2:=by omega
   by_cases c2: (d.a.length:Int)=Yb d.r
   ·by_cases c5: (d.c.length:Int)=Uq d
    ·simp[F.f385C,c386,c387,ewe,c1,c2,c3,c5];apply h <;> simp
    ·simp[F.f385C,c386,c387,ewe,c1,c2,c3,c5]
   ·simp[F.f385C,c386,c387,ewe,c1,c2,c3]
  ·by_cases c3:Yb d.r= -2
   ·by_cases c4:d.a.length=0
    ·simp[F.f385C,c386,c387,ewe,c1,c3,c4,lz]
    ·by_cases c5: (d.c.length:Int)=Uq d
     ·simp[F.f385C,c386,c387,ewe,c1,c3,c4,lz,c5];apply h <;> simp
     ·simp[F.f385C,c386,c387,ewe,c1,c3,c4,lz,c5]
   ·by_cases c5: (d.c.length:Int)=Uq d
    ·simp[F.f385C,c386,c387,ewe,c1,c3,c5];apply h <;> simp
    ·simp[F.f385C,c386,c387,ewe,c1,c3,c5]
theorem OV (t:Tm) (n:List UInt8) (ks:List Tm) (o:Bool) (bs:List (List AV)) (ht:t.mass < big) (hk: (Tm.mk 3 n 0 ks).mass < big) (hl:ks.length < 1000000):
  call F.tb 389 [.agg (Qc t),.str n,.sl o 4 (encTs ks)] bs=some (.bool (decide (Qm t (.mk 3 n 0 ks)=0)),bs):=by
 have h1:=fun o=>XF n ks o bs (by omega);have h2:=Yi t (.mk 3 n 0 ks) bs ht hk;rw[Qa F.tb_389 _ _ rfl];simp[F.f389C,h1,h2]
theorem M7 (t:Tm) (n:List UInt8) (i:Nat) (u:Tm) (bs:List (List AV)) (hm:t.mass < big) (hu:u.mass < big) (hi:i < 10):
  call F.tb 337 [.agg (Qc t),.str n,.int .i64 i,.agg (Qc u)] bs=some (.bool (Xe t n i u),bs):=by
 have h1:=Tq t n bs;have e1:=QS t;rw[Qa F.tb_337 _ _ rfl];unfold Xe;cases c:isN t n
 ·have c':isB t n=_:=c;rw[c']at h1;simp only[e1]at h1 ⊢;simp[F.f337C,h1]
 ·have c':isB t n=_:=c;rw[c']at h1;simp only[e1]at h1 ⊢;by_cases hil:i < t.kids.length
  ·have hil': (i:Int) < (t.kids.length:Int):=by omega
   have hk:t.kids[i]? =some t.kids[i]:=List.getElem?_eq_getElem hil;have hkm:t.kids[i].mass < big:=Pr hm (List.getElem_mem _);have h2:=Yi t.kids[i] u bs hkm hu;rw[hk];generalize t.kids[i]=k at *;simp[-getElem?_pos,QL,List.getElem?_cons_zero,List.getElem?_cons_succ,F.f337C,h1,h2,e1,hk,hil']
  ·have hil': ¬(i:Int) < (t.kids.length:Int):=by omega
   have hk:t.kids[i]? =none:=List.getElem?_eq_none (by omega);rw[hk];simp[-getElem?_pos,QL,List.getElem?_cons_zero,List.getElem?_cons_succ,F.f337C,h1,e1,hil']
def Q1 (l:List (List Pw)):List (List AV):=l.map fun g=>[AV.sl false 5 (Qt g)]
@[simp] theorem Qiy (l:List (List Pw)): (Q1 l).length=l.length:=by simp[Q1]
@[simp] theorem Qix (l:List (List Pw)) (i:Nat): (Q1 l)[i]? =(l[i]?).map fun g=>[AV.sl false 5 (Qt g)]:=by simp[Q1]
@[simp] theorem Bl: ∀l:List (List Pw),gpfreeE (Q1 l)=true
 | []=>rfl
 | p:: l=>by
  have:=Bl l;simp only[Q1]at this ⊢;simp[gpfreeE,gpfreeL,AV.gpfree,this]
theorem Me (a b:List (List Pw)):Q1 a ++ Q1 b=Q1 (a ++ b):=by simp[Q1]
theorem US (g:List Pw): [[AV.sl false 5 (Qt g)]]=Q1 [g]:=rfl
def XK (g:List Pw):Bool:=decide (Ze g≠0)
def SmP (g:List Pw):Prop:=g.length < 1000000∧∀q∈g,q.1.mass < 1000000
theorem SmP.big {g:List Pw} (h:SmP g): ∀q∈g,q.1.mass < big:=fun q hq=>by have:=h.2 q hq;unfold Go.Am.big;omega
theorem Qdf (g:List Pw) (o:Bool) (bs:List (List AV)) (h:SmP g):call F.tb 369 [.sl o 5 (Qt g)] bs=some (.bool (XK g),bs):=by
 have h1:=fun o=>RM g o bs (by have:=h.1;omega) h.big;rw[Qa F.tb_369 _ _ rfl];simp[F.f369C,h1,XK]
theorem QaW (l:List (List Pw)) (bs:List (List AV)) (hc: ∀g∈l,SmP g) (hl:l.length < 1000000):
  ∀(post pre:List (List Pw)) (o:Bool) (ρ:Nat→AV),l=pre ++ post→pre.any XK=false→ρ 0= .sl o 1 (Q1 l)→ρ 1= .fn 369 []→ρ 7= .int .i64 l.length→ρ 8= .int .i64 pre.length→
  T6 (l.any XK) bs (R F.tb (.loop F.f371l0) ρ bs (Qh 0 (Qq F.tb F.f371r0 (Qx F.f371 bs)))):=by
 intro post
 induction post with
 | nil=>
  intro pre o ρ hk hp h0 h1 h7 h8;simp only[List.append_nil]at hk;rw[← hk]at h8 hp;rw[Qb F.f371l0.eq_1];refine⟨-1,?_,by rw[hp];simp⟩;simp[h0,h1,h7,h8,F.f371r0]
 | cons x post IH=>
  intro pre o ρ hk hp h0 h1 h7 h8;have hgt:=Qn hk;have hll:=Qu hk;have hw1:=wr1 pre.length (by omega);have hlt:=Qv hk;have hcall:=Qdf x false bs (hc x (by rw[hk];simp));have ih:=fun ρ hpp=>IH (pre ++ [x]) o ρ (by rw[hk];simp) hpp;rw[Qb F.f371l0.eq_1];cases ho:XK x
  ·rw[ho]at hcall;have ih2:=fun ρ=>ih ρ (by rw[List.any_append,hp];simp[ho]);simp[h0,h1,h7,h8,hlt,hgt,hw1,hcall,-List.any_eq_false,-List.any_eq_true];apply ih2 <;> simp[h0,h1,h7]
  ·rw[ho]at hcall;have hany:l.any XK=true:=List.any_eq_true.2 ⟨x,by rw[hk];simp,ho⟩;refine⟨pre.length,?_,by rw[hany];simp⟩;simp[h0,h1,h7,h8,hlt,hgt,hcall]
theorem Qdg (l:List (List Pw)) (o:Bool) (bs:List (List AV)) (hc: ∀g∈l,SmP g) (hl:l.length < 1000000):
  call F.tb 370 [.sl o 1 (Q1 l),.fn 369 []] bs=some (.bool (l.any XK),bs):=by
 have h1:=fun ρ=>QaW l bs hc hl l [] false ρ rfl rfl;have h2:T6 (l.any XK) bs (call F.tb 371 [.sl false 1 (Q1 l),.fn 369 []] bs):=by
  rw[Qa F.tb_371 _ _ rfl];simp[F.f371C,-List.any_eq_false,-List.any_eq_true];apply h1 <;> simp
 obtain⟨i,hi,hb⟩:=h2;rw[Qa F.tb_370 _ _ rfl];simp[F.f370C,hi,-List.any_eq_false,-List.any_eq_true];cases hx:l.any XK
 ·rw[hx]at hb;simp at hb;simpa using hb
 ·rw[hx]at hb;simp at hb;simpa using hb
theorem QbJ {l:List Tm} {t:Tm} {B:List (List AV)} (hl:l.length < 100000000) (hm: ∀p∈l,p.mass < big) (ht:t.mass < big) (ha:Asc l) {n:Nat} (hn:l[n]? =some t):
  ∀(d i j:Nat) (o:Bool) (ρ:Nat→AV),j - i≤d→i≤n→n≤j→j≤l.length→
  ρ 0= .sl o 4 (encTs l)→ρ 4= .bx (Qc t)→ρ 2= .fn 30 []→ρ 8= .int .i64 l.length→ρ 9= .int .i64 i→ρ 10= .int .i64 j→
  R F.tb (.loop F.f378l0) ρ B (Qh 0 (Qq F.tb F.f378r0 (Qx F.f378 B)))=some (.tup [.int .i64 n,.bool true],B):=by
 have hnl:n < l.length:=(List.getElem?_eq_some_iff.1 hn).1;have ord: ∀(i j:Nat) (p q:Tm),l[i]? =some p→l[j]? =some q→i < j→Qm p q < 0:=by
  intro i j p q hp hq hij;obtain⟨h1,rfl⟩:=List.getElem?_eq_some_iff.1 hp;obtain⟨h2,rfl⟩:=List.getElem?_eq_some_iff.1 hq;exact List.pairwise_iff_getElem.1 ha i j h1 h2 hij
 have base: ∀(o:Bool) (ρ:Nat→AV),ρ 0= .sl o 4 (encTs l)→ρ 4= .bx (Qc t)→ρ 2= .fn 30 []→ρ 8= .int .i64 l.length→ρ 9= .int .i64 n→ρ 10= .int .i64 n→
   R F.tb (.loop F.f378l0) ρ B (Qh 0 (Qq F.tb F.f378r0 (Qx F.f378 B)))=some (.tup [.int .i64 n,.bool true],B):=by
  intro o ρ h0 h4 h2 h8 h9 h10;have c1: (n:Int) < (l.length:Int):=by omega
  have h3:=call_Compare t t B ht ht;have e0:Qm t t=0:=(YU).2 rfl;rw[e0]at h3;rw[Qb F.f378l0.eq_1];simp[-getElem?_pos,F.f378r0,h0,h2,h4,h8,h9,h10,c1,hn,h3]
 intro d
 induction d with
 | zero=>
  intro i j o ρ hd hin hnj hj h0 h4 h2 h8 h9 h10;have e1:i=n:=by omega
  have e2:j=n:=by omega
  subst e1 e2;exact base o ρ h0 h4 h2 h8 h9 h10
 | succ d IH=>
  intro i j o ρ hd hin hnj hj h0 h4 h2 h8 h9 h10;by_cases hlt:i < j
  ·have hmn: (i+j) / 2 < l.length:=by omega
   have hw:=BH (i:=i) (j:=j) (by omega);have hp:=List.getElem?_eq_getElem hmn;have hmp:=hm _ (List.getElem_mem hmn);have hltI: (i:Int) < (j:Int):=by omega
   have hb1:i≤(i+j) / 2:=by omega
   have hb2: (i+j) / 2 < j:=by omega
   generalize l[(i+j) / 2]=p at *;generalize hmm: (i+j) / 2=m at *;have h3:=call_Compare p t B hmp ht;have hw1:IntKind.i64.wrap ((m:Int)+1)=((m+1:Nat):Int):=by rw[QW (by omega) (by omega)];omega
   rw[Qb F.f378l0.eq_1];by_cases cc1:Qm p t < 0
   ·have hmn2:m+1≤n:=by
     rcases Nat.lt_trichotomy m n with h | h | h
     ·omega
     ·subst h;rw[hp]at hn;injection hn with hn;subst hn
      have:Qm p p=0:=(YU).2 rfl;omega
     ·exact absurd (Yv cc1 (ord n m t p hn hp h)) (by have:Qm p p=0:=(YU).2 rfl;omega)
    have ih:=fun o ρ=>IH (m+1) j o ρ (by omega) hmn2 hnj hj;simp[-getElem?_pos,h0,h2,h4,h8,h9,h10,hltI,hw,hw1,hp,h3,cc1];refine ih o _ ?_ ?_ ?_ ?_ ?_ ?_ <;> simp[h0,h2,h4,h8,h10]
   ·have hmn2:n≤m:=by
     rcases Nat.lt_or_ge m n with h | h
     ·exact absurd (ord m n p t hp hn h) cc1
     ·exact h
    have ih:=fun o ρ=>IH i m o ρ (by omega) hin hmn2 (by omega);simp[-getElem?_pos,h0,h2,h4,h8,h9,h10,hltI,hw,hw1,hp,h3,cc1];refine ih o _ ?_ ?_ ?_ ?_ ?_ ?_ <;> simp[h0,h2,h4,h8,h9]
  ·have e1:i=n:=by omega
   have e2:j=n:=by omega
   subst e1 e2;exact base o ρ h0 h4 h2 h8 h9 h10
theorem GZ {l:List Tm} {t:Tm} {B:List (List AV)} (o:Bool) (hl:l.length < 100000000) (hm: ∀p∈l,p.mass < big) (ht:t.mass < big) (ha:Asc l) {n:Nat} (hn:l[n]? =some t):
  call F.tb 378 [.sl o 4 (encTs l),.agg (Qc t),.fn 30 []] B=some (.tup [.int .i64 n,.bool true],B):=by
 have hnl:n < l.length:=(List.getElem?_eq_some_iff.1 hn).1;have h:=fun ρ=>QbJ (B:=B) hl hm ht ha hn l.length 0 l.length false ρ (by omega) (by omega) (by omega) (by omega);rw[Qa F.tb_378 _ _ rfl];simp[-getElem?_pos,F.f378C];refine h _ ?_ ?_ ?_ ?_ ?_ ?_ <;> simp
def XU (l:List (List Pw)):List Tm:=(l.map Zb).flatten
def Yj (l:List (List Pw)):List Tm:=Yf (XU l)
theorem PW (g:List Pw) (a:List (List Pw)):XU (g:: a)=Zb g ++ XU a:=by simp[XU]
theorem QaZ {l:List (List Pw)} {g:List Pw} {q:Pw} (hg:g∈l) (hq:q∈g):q.1∈XU l:=by
 simp only[XU,List.mem_flatten,List.mem_map];exact⟨Zb g,⟨g,hg,rfl⟩,List.mem_map.2 ⟨q,hq,rfl⟩⟩
theorem A9 {l:List (List Pw)} {t:Tm} (h:t∈XU l): ∃g∈l,∃q∈g,q.1=t:=by
 simp only[XU,List.mem_flatten,List.mem_map]at h;obtain⟨ks,⟨g,hg,rfl⟩,ht⟩:=h;obtain⟨q,hq,rfl⟩:=List.mem_map.1 ht;exact⟨g,hg,q,hq,rfl⟩
theorem Qdi (x y:Tm) (bs:List (List AV)) (hx:x.mass < big) (hy:y.mass < big):call F.tb 375 [.agg (Qc x),.agg (Qc y)] bs=some (.bool (decide (Qm x y=0)),bs):=by
 have h:=call_Compare x y bs hx hy;rw[Qa F.tb_375 _ _ rfl];simp[F.f375C,h]
theorem QgZ:EqF 375:=fun x y bs hx hy=>Qdi x y bs hx hy
theorem Qia {B0 B:List (List AV)} {v:AV} {l:List Tm} (h:TS B0 B v l) (hl:l.length < 1000000) (hm: ∀x∈l,x.mass < 1000000) (ρ:Nat→AV) (h3:ρ 3=v):
  R F.tb F.f373r1 ρ B (Qx F.f373 B0)=some (.sl true 4 (encTs (Yf l)),B0):=by
 obtain⟨M,id,sz,rfl,rfl,hc⟩:=h;have hg:=encTs_gp (Yf l);rcases hc with⟨rfl,rfl,rfl⟩ | ⟨rfl,hid,hne,hb⟩
 ·have hs:call F.tb 170 [.gs 0 0 0 0,.fn 30 []] (B0 ++ M)=some (.tup [],B0 ++ M):=by rw[Y6 F.tb_170];simp[T4]
  have hc:=It 375 (B0 ++ M);have e:Yf []=([]:List Tm):=rfl;simp[F.f373r1,h3,hs,hc,encTs,e,List.take_of_length_le]
 ·have hmb: ∀x∈l,x.mass < big:=fun x hx=>by have:=hm x hx;unfold big;omega
  have hs:=P5 l (B0 ++ M) id hb (by omega) hmb;have hB:=Wk hb;have hS: ((B0 ++ M).set id (Qo (ZN l)))[id]? =some (Qo (ZN l)):=by rw[List.getElem?_set,if_pos rfl,if_pos hB]
  have hsne:ZN l≠[]:=by
   intro e;obtain⟨x,hx⟩:=List.exists_mem_of_ne_nil l hne;have:=(W3 (l:=l)).2 hx;rw[e]at this;simp at this
  have hc:=G3 375 QgZ (ZN l) ((B0 ++ M).set id (Qo (ZN l))) id hS hsne (by rw[X8];omega) fun x hx=>hmb x (W3.1 hx);rw[Sa,X8]at hc;unfold RZ at hc;rw[List.set_set]at hc;simp only[YI hid]at hs hc;simp[-getElem?_pos,F.f373r1,h3,hs,hc,hg,List.take_of_length_le]
theorem Qh8 (g:List Pw) (B0:List (List AV)) (hg:SmP g) (c:AC) (K:Kn) (X:Out):
  ∀(post pre:List Pw) (acc:List Tm) (B:List (List AV)) (v:AV) (o:Bool) (ρ:Nat→AV),g=pre ++ post→TS B0 B v acc→acc.length+post.length < 500000→
   ρ 3=v→ρ 14= .sl o 5 (Qt g)→ρ 15= .int .i64 g.length→ρ 16= .int .i64 pre.length→
   (∀(ρ':Nat→AV) (v':AV) (B':List (List AV)),TS B0 B' v' (acc ++ Zb post)→ρ' 3=v'→ρ' 8=ρ 8→ρ' 9=ρ 9→ρ' 10=ρ 10→R F.tb c ρ' B' K=X)→
  R F.tb (.loop F.f373l0) ρ B (Qh 2 (Qh 1 (Qq F.tb c K)))=X:=by
 intro post
 induction post with
 | nil=>
  intro pre acc B v o ρ hk hts hal h3 h14 h15 h16 H;simp only[List.append_nil]at hk;rw[← hk]at h16;obtain⟨id,sz,rfl⟩:=Wg hts;rw[Qb F.f373l0.eq_1];simp[h3,h14,h15,h16];refine H _ _ _ (by simpa[Zb]using hts) ?_ ?_ ?_ ?_ <;> simp[h3]
 | cons q post IH=>
  intro pre acc B v o ρ hk hts hal h3 h14 h15 h16 H;have hgt:=Qn hk;have hll:=Qu hk;have hw1:IntKind.i64.wrap ((pre.length:Int)+1)=(pre.length:Int)+1:=QW (by have:=hg.1;omega) (by have:=hg.1;omega);have hlt:=Qv hk;simp only[List.length_cons]at hal;obtain⟨v2,B2,q1,q2,q3⟩:=O9 q.1 false hts (by omega);have ih:=fun ρ=>IH (pre ++ [q]) (acc ++ [q.1]) B2 v2 o ρ (by rw[hk];simp) q2 (by simp;omega);obtain⟨id,sz,rfl⟩:=Wg hts;obtain⟨id2,sz2,rfl⟩:=Wg q2;rw[Qb F.f373l0.eq_1];simp[-List.append_assoc,h3,h14,h15,h16,hlt,hgt,hw1,q1];refine ih _ ?_ ?_ ?_ ?_ ?_
  ·simp
  ·simp[h14]
  ·simp[h15]
  ·simp
  ·intro ρ' v' B' g1 g3 g8 g9 g10;refine H ρ' v' B' (by simpa[Zb]using g1) g3 ?_ ?_ ?_
   ·rw[g8];simp
   ·rw[g9];simp
   ·rw[g10];simp
theorem Qh9 (l:List (List Pw)) (B0:List (List AV)) (hl:l.length < 1000) (hs: ∀g∈l,SmP g∧g.length≤200):
  ∀(post pre:List (List Pw)) (acc:List Tm) (B:List (List AV)) (v:AV) (o:Bool) (ρ:Nat→AV),l=pre ++ post→TS B0 B v acc→acc.length+200*post.length≤200*l.length→(∀x∈acc,x.mass < 1000000)→
   ρ 3=v→ρ 8= .sl o 1 (Q1 l)→ρ 9= .int .i64 l.length→ρ 10= .int .i64 pre.length→
  R F.tb (.loop F.f373l1) ρ B (Qh 0 (Qq F.tb F.f373r1 (Qx F.f373 B0)))=some (.sl true 4 (encTs (Yf (acc ++ XU post))),B0):=by
 intro post
 induction post with
 | nil=>
  intro pre acc B v o ρ hk hts hal ham h3 h8 h9 h10;simp only[List.append_nil]at hk;rw[← hk]at h10;have h:=fun ρ h3=>Qia hts (by simp at hal;omega) ham ρ h3;have e:acc ++ XU []=acc:=by simp[XU]
  rw[Qb F.f373l1.eq_1,e];simp[h3,h8,h9,h10];apply h;simp[h3]
 | cons g post IH=>
  intro pre acc B v o ρ hk hts hal ham h3 h8 h9 h10;have hgt:=Qn hk;have hll:=Qu hk;have hw1:=wr1 pre.length (by omega);have hlt:=Qv hk;obtain⟨hsg,hg2⟩:=hs g (by rw[hk];simp);simp only[List.length_cons]at hal;have hpl: (Zb g).length=g.length:=by simp[Zb]
  have ih:=fun B v ρ hts=>IH (pre ++ [g]) (acc ++ Zb g) B v o ρ (by rw[hk];simp) hts (by rw[List.length_append,hpl];omega) (fun x hx=>by
   rcases List.mem_append.1 hx with hx | hx
   ·exact ham x hx
   ·obtain⟨q,hq,rfl⟩:=List.mem_map.1 hx;exact hsg.2 q hq)
  have e:acc ++ XU (g:: post)=(acc ++ Zb g)++ XU post:=by rw[PW,List.append_assoc]
  have h:=fun o ρ c K X=>Qh8 g B0 hsg c K X g [] acc B v o ρ rfl hts (by omega);rw[e,Qb F.f373l1.eq_1];simp[-List.append_assoc,h3,h8,h9,h10,hlt,hgt];refine h false _ _ _ _ ?_ ?_ ?_ ?_ ?_
  ·simp[h3]
  ·simp
  ·simp
  ·simp
  ·intro ρ' v' B' g1 g3 g8 g9 g10;obtain⟨id2,sz2,rfl⟩:=Wg g1;simp[-List.append_assoc,F.f373r0,g10,h10,hw1];refine ih B' _ _ g1 ?_ ?_ ?_ ?_
   ·simp[g3]
   ·simp[g8,h8]
   ·simp[g9,h9]
   ·simp
theorem Qdh (l:List (List Pw)) (o:Bool) (B0:List (List AV)) (hl:l.length < 1000) (hs: ∀g∈l,SmP g∧g.length≤200):
  call F.tb 373 [.sl o 1 (Q1 l)] B0=some (.sl true 4 (encTs (Yj l)),B0):=by
 have h:=fun o ρ=>Qh9 l B0 hl hs l [] [] B0 (.gs 0 0 0 0) o ρ rfl (AJ B0) (by simp) (by simp);rw[Qa F.tb_373 _ _ rfl];simp only[List.nil_append]at h;unfold Yj;generalize encTs (Yf (XU l))=E1 at *;simp[F.f373C];refine h false _ ?_ ?_ ?_ ?_ <;> simp
end Go.Am
