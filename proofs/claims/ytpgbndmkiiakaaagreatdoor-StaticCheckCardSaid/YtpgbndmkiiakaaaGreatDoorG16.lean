/-
  Rc5, Rc6, Rc7, Rc8, Rc9, Rc10, Rc11.
-/
import Derived.Test.YtpgbndmkiiakaaaGreatDoorG15
set_option linter.unusedVariables false
set_option linter.unusedSimpArgs false
namespace Go.Am
set_option maxRecDepth 8000
def Wst (B0:List (List AV)) (k:Int) (acc:List Tm) (bs:List (List AV)):Prop:=
 B0.length+2≤bs.length∧bs.take B0.length=B0∧bs[B0.length]? =some [.int .i64 k]∧
  ((acc=[]∧bs[B0.length+1]? =some [.gs 0 0 0 0])∨(acc≠[]∧∃g,B0.length+1 < g∧bs[B0.length+1]? =some [.gs g 0 4 acc.length]∧bs[g]? =some (Qu acc)))
theorem Ov {α:Type} {bs c:List α} {n i:Nat} {y:α} (h:n≤bs.length) (hi:n≤i): ((bs ++ c).set i y).take n=bs.take n:=by
 apply List.ext_getElem?
 intro j
 rw[List.getElem?_take,List.getElem?_take]
 split
 ·rw[List.getElem?_set_ne (by omega),List.getElem?_append_left (by omega)]
 ·rfl
def Uo:List AV:=[.int .i64 0,.str [],.int .i64 0,.sl false 4 []]
theorem Dh (B0:List (List AV)) (k:Int) (acc:List Tm) (bs:List (List AV)) (x:Tm) (hw:Wst B0 k acc bs) (ha:acc.length < 100000000):
  ∃bs',call F.tb 167 [.agg (Qb x),.gp B0.length 0,.gp (B0.length+1) 0] bs=some (.tup [],bs')∧Wst B0 k (acc ++ if x.kind=k then [x]else []) bs':=by
 obtain⟨h1,h2,h3,h4⟩:=hw
 have hgx:=QD x
 by_cases hk:x.kind=k
 ·rcases h4 with⟨rfl,h4⟩ | ⟨hne,g,hg,h4,h5⟩
  ·have hl1: ¬bs.length=B0.length+1:=by omega
   refine⟨((bs ++ [Qb x]).set (B0.length+1) [.gs bs.length 0 4 1]),?_,?_⟩
   ·rw[Qa F.tb_167 _ _ rfl]
    have e1: (bs ++ [Uo])[bs.length]? =some Uo:=List.getElem?_concat_length
    have e2: (bs ++ [Uo]).set bs.length (Qb x)=bs ++ [Qb x]:=by rw[List.set_append];simp
    have e3: (bs ++ [Qb x])[B0.length+1]? =some [.gs 0 0 0 0]:=by rw[List.getElem?_append_left (by omega)];exact h4
    simp only[Uo]at e1 e2
    simp[F.f167,F.f167C,hk,h3,h4,appM,Wd,hl1,e1,e2,e3,Yb]
   ·refine⟨by simp;omega,?_,?_,.inr ⟨by simp[hk],bs.length,by omega,?_,?_⟩⟩
    ·rw[Ov (by omega) (by omega)];exact h2
    ·rw[List.getElem?_set_ne (by omega),List.getElem?_append_left (by omega)];exact h3
    ·rw[List.getElem?_set_self (by simp;omega)];simp[hk]
    ·rw[List.getElem?_set_ne (by omega),List.getElem?_concat_length];simp[hk,ZH]
  ·have hl1: ¬bs.length=B0.length+1:=by omega
   have hgl:=VH h5
   have hlen: (Qu acc).length=acc.length*4:=Z1 QP acc
   have hst: (Qu acc).map AV.strip=Qu acc:=Yi Zz acc
   have htk: (Qu acc).take (acc.length*4)=Qu acc:=List.take_of_length_le (by omega)
   have hb: (acc.length+1)*56≤140737488355328:=by omega
   have hn1: ¬(acc.length+1)*4≤acc.length*4:=by omega
   have hput: (Qu acc ++ Uo).take (acc.length*4)++ (Qb x ++ (Qu acc ++ Uo).drop (acc.length*4+4))=Qu (acc ++ [x]):=by
    rw[← hlen,List.take_left,List.drop_eq_nil_of_le (by simp[Uo])];simp[Qu,XZ,RY]
   have hzl: (Qu acc ++ Uo).length=acc.length*4+4:=by rw[List.length_append,hlen];rfl
   have hne0:Qu acc≠[]:=fun e=>by rw[e]at hlen;cases acc with
    | nil=>exact hne rfl
    | cons y ys=>simp at hlen
   have hlt: (acc.length:Int) < (acc.length:Int)+1:=by omega
   refine⟨((bs.set g []++ [Qu (acc ++ [x])]).set (B0.length+1) [.gs bs.length 0 4 (acc.length+1)]),?_,?_⟩
   ·rw[Qa F.tb_167 _ _ rfl]
    have e1: (bs.set g []++ [Qu acc ++ Uo])[bs.length]? =some (Qu acc ++ Uo):=by
     have:bs.length=(bs.set g []).length:=by simp
     rw[this];exact List.getElem?_concat_length
    have e2: (bs.set g []++ [Qu acc ++ Uo]).set bs.length (Qu (acc ++ [x]))=bs.set g []++ [Qu (acc ++ [x])]:=by rw[List.set_append];simp
    have e3: (bs.set g []++ [Qu (acc ++ [x])])[B0.length+1]? =some [.gs g 0 4 acc.length]:=by
     rw[List.getElem?_append_left (by simp;omega),List.getElem?_set_ne (by omega)];exact h4
    have hz:Uo=[.int .i64 0,.str [],.int .i64 0,.sl false 4 []]:=rfl
    rw[hz]at e1 e2 hput hzl
    generalize Qu (acc ++ [x])=r2 at *
    generalize Qu acc=r1 at *
    simp[F.f167,F.f167C,hk,h3,h4,h5,appM,Wd,hl1,hb,hne0,hlen,hn1,htk,hst,Yb]
    generalize r1 ++ [AV.int IntKind.i64 0,AV.str [],AV.int IntKind.i64 0,AV.sl false 4 []]=r3 at *
    simp[hlt,e1,e2,e3,hput,hzl,hl1,Yb,h3]
   ·refine⟨by simp;omega,?_,?_,.inr ⟨by simp[hk],bs.length,by omega,?_,?_⟩⟩
    ·rw[Ov (by simp;omega) (by omega),List.take_set_of_le (by omega)];exact h2
    ·rw[List.getElem?_set_ne (by omega),List.getElem?_append_left (by simp;omega),List.getElem?_set_ne (by omega)];exact h3
    ·rw[List.getElem?_set_self (by simp;omega)];simp[hk]
    ·rw[List.getElem?_set_ne (by omega)]
     have:bs.length=(bs.set g []).length:=by simp
     rw[this,List.getElem?_concat_length];simp[hk]
 ·refine⟨bs,?_,by simpa[hk]using⟨h1,h2,h3,h4⟩⟩
  rw[Qa F.tb_167 _ _ rfl]
  simp[F.f167,F.f167C,hk,h3]
end Go.Am
namespace Go.Am
set_option maxRecDepth 8000
mutual
def QR:Tm→List Tm
 | .mk k n s ks=> .mk k n s ks:: allL ks
def allL:List Tm→List Tm
 | []=>[]
 | t:: ts=>QR t ++ allL ts
end
theorem QdT (t:Tm):QR t=t:: allL t.kids:=by cases t;simp[QR]
theorem I0 (a b:List Tm):allL (a ++ b)=allL a ++ allL b:=by
 induction a with
 | nil=>simp[allL]
 | cons t ts ih=>simp[allL,ih]
mutual
theorem Xh: ∀t:Tm,(QR t).length=t.nodes
 | .mk k n s ks=>by simp only[QR,List.length_cons,Tm.nodes,allL_len ks];omega
theorem allL_len: ∀ts:List Tm,(allL ts).length=nodesL ts
 | []=>by simp[allL,nodesL]
 | t:: ts=>by simp only[allL,List.length_append,nodesL,Xh t,allL_len ts]
end
mutual
theorem Xb: ∀(t x:Tm),x∈QR t→x.mass≤t.mass
 | .mk k n s ks,x,h=>by
  simp only[QR,List.mem_cons]at h
  rcases h with rfl | h
  ·exact Nat.le_refl _
  ·have:=allL_mass ks x h
   simp only[Tm.mass];omega
theorem allL_mass: ∀(ts:List Tm) (x:Tm),x∈allL ts→x.mass≤massL ts
 | [],x,h=>by simp[allL]at h
 | t:: ts,x,h=>by
  simp only[allL,List.mem_append]at h
  simp only[massL]
  rcases h with h | h
  ·have:=Xb t x h;omega
  ·have:=allL_mass ts x h;omega
end
def ZK (k:Int) (x:Tm):Bool:=decide (x.kind=k)
def WOk (B0:List (List AV)) (k:Int) (acc:List Tm) (r:Option (AV×List (List AV))):Prop:=∃bs',r=some (.tup [],bs')∧Wst B0 k acc bs'
theorem QaR (B0:List (List AV)) (k:Int) (t:Tm) (B:List (List AV)) (hm:t.mass < 100000000)
  (ih: ∀x∈t.kids,∀acc bs,Wst B0 k acc bs→acc.length+x.nodes < 100000000→WOk B0 k (acc ++ (QR x).filter (ZK k)) (call F.tb 168 [.agg (Qb x),.fn 167 [.gp B0.length 0,.gp (B0.length+1) 0]] bs)):
  ∀(post pre acc:List Tm) (bs:List (List AV)) (ρ:Nat→AV),t.kids=pre ++ post→Wst B0 k acc bs→acc.length+nodesL post < 100000000→ρ 1= .fn 167 [.gp B0.length 0,.gp (B0.length+1) 0]→ρ 10= .sl false 4 (encTs t.kids)→ρ 11= .int .i64 t.kids.length→ρ 12= .int .i64 pre.length→
  WOk B0 k (acc ++ (allL post).filter (ZK k)) (R F.tb (.loop F.f168l0) ρ bs (Qk 0 (QB F.f168 B))):=by
 have hmk:=Qq t
 intro post
 induction post with
 | nil=>
  intro pre acc bs ρ hk hw ha h1 h10 h11 h12
  simp only[List.append_nil]at hk
  rw[← hk]at h12
  rw[Qc F.f168l0.eq_1]
  refine⟨bs,?_,by simpa[allL]using hw⟩
  simp[h1,h10,h11,h12,F.f168R,F.f168K]
 | cons x post IH=>
  intro pre acc bs ρ hk hw ha h1 h10 h11 h12
  have hg:=Qp hk
  have hl:t.kids.length=pre.length+ (post.length+1):=by rw[hk];simp
  have hw1:IntKind.i64.wrap ((pre.length:Int)+1)=(pre.length:Int)+1:=Qj (by omega) (by omega)
  have hlt: (pre.length:Int) < (t.kids.length:Int):=by omega
  simp only[nodesL]at ha
  obtain⟨bs',hc,hw'⟩:=ih x (by rw[hk];simp) acc bs hw (by omega)
  have hfl: ((QR x).filter (ZK k)).length≤x.nodes:=by rw[← Xh];exact List.length_filter_le _ _
  have h2:=fun ρ=>IH (pre ++ [x]) _ bs' ρ (by rw[hk];simp) hw' (by rw[List.length_append];omega)
  rw[List.append_assoc,← List.filter_append,show QR x ++ allL post=allL (x:: post) by simp[allL]]at h2
  rw[Qc F.f168l0.eq_1]
  simp[h1,h10,h11,h12,hg,hlt,hw1,hc]
  refine h2 _ ?_ ?_ ?_ ?_ <;> simp[h1,h10,h11]
theorem Au (B0:List (List AV)) (k:Int): ∀(t:Tm) (acc:List Tm) (bs:List (List AV)),t.mass < 100000000→Wst B0 k acc bs→acc.length+t.nodes < 100000000→
  WOk B0 k (acc ++ (QR t).filter (ZK k)) (call F.tb 168 [.agg (Qb t),.fn 167 [.gp B0.length 0,.gp (B0.length+1) 0]] bs):=by
 refine Zd ?_
 intro kk n s ks ih acc bs hm hw ha
 have hmk:=Qq (.mk kk n s ks)
 have hnk:=Yo (.mk kk n s ks)
 simp only[QO,Za]at hmk hnk
 obtain⟨bs1,hc,hw1⟩:=Dh B0 k acc bs (.mk kk n s ks) hw (by omega)
 have hl:=fun ρ=>QaR B0 k (.mk kk n s ks) bs hm (fun x hx acc bs hw ha=>ih x hx acc bs (by have:=QA hx;simp at this;omega) hw ha) ks [] _ bs1 ρ rfl hw1 (by
  rw[List.length_append];split <;> simp <;> omega)
 have he:acc ++ (QR (.mk kk n s ks)).filter (ZK k)=(acc ++ if(Tm.mk kk n s ks).kind=k then [.mk kk n s ks]else [])++ (allL ks).filter (ZK k):=by
  simp only[QR,List.filter_cons,ZK,XX]
  by_cases h:kk=k <;> simp[h]
 rw[he,Qa F.tb_168 _ _ rfl]
 simp[F.f168B,F.f168C,hc]
 simp only[XX,QO,List.append_assoc]at hl
 refine hl _ ?_ ?_ ?_ ?_ <;> simp[QF]
theorem O6 (t:Tm) (k:Int) (B:List (List AV)) (hm:t.mass < 100000000):
  call F.tb 166 [.agg (Qb t),.int .i64 k] B=some (.sl true 4 (encTs (YZ ((QR t).filter (ZK k)))),B):=by
 have hn:=Ze t
 have hw0:Wst B k [] (B ++ [[.int .i64 k],[.gs 0 0 0 0]]):=by
  refine⟨by simp,by simp,by simp,.inl ⟨rfl,?_⟩⟩
  rw[List.getElem?_append_right (by omega)];simp
 obtain⟨bs',hc,h1,h2,h3,h4⟩:=Au B k t [] _ hm hw0 (by simp;omega)
 rw[Qa F.tb_166 _ _ rfl]
 have e1: (B ++ [[AV.int .i64 k]])++ [[AV.gs 0 0 0 0]]=B ++ [[.int .i64 k],[.gs 0 0 0 0]]:=by simp
 have e2: (B ++ [[AV.int .i64 k]]).length=B.length+1:=by simp
 generalize hF: (QR t).filter (ZK k)=A at *
 have hlen:A.length < 100000000:=by rw[← hF];have:=List.length_filter_le (ZK k) (QR t);rw[Xh]at this;omega
 have hmm: ∀x∈A,x.mass < big:=fun x hx=>by
  rw[← hF]at hx
  have:=Xb t x (List.mem_filter.1 hx).1
  unfold big;omega
 have hgp:gpfreeE (encTs (YZ A))=true:=encTs_gp _
 simp only[List.nil_append]at h4
 rcases h4 with⟨h5,h6⟩ | ⟨h5,g,h6,h7,h8⟩
 ·have ho:=K2 bs'
  subst h5
  simp[F.f166,F.f166C,QD,e1,e2,hc,h6,ho,h2,YZ,Wh,encTs]
 ·have ho:=Hh A bs' g h8 h5 hlen hmm
  have hgl:=VH h8
  have ht: (bs'.set g []).take B.length=B:=by rw[List.take_set_of_le (by omega)];exact h2
  simp[F.f166,F.f166C,QD,e1,e2,hc,h7,ho,ht,hgp]
def W8 (t:Tm):List Tm:=YZ ((QR t).filter (ZK 1))
def Y0 (t:Tm):List Tm:=YZ ((QR t).filter (ZK 2))
theorem Ar (t:Tm) (B:List (List AV)) (hm:t.mass < 100000000):call F.tb 165 [.agg (Qb t)] B=some (.sl true 4 (encTs (W8 t)),B):=by
 rw[Qa F.tb_165 _ _ rfl]
 have h:=O6 t 1 B hm
 have hgp:gpfreeE (encTs (YZ ((QR t).filter (ZK 1))))=true:=encTs_gp _
 simp[F.f165,F.f165C,QD,h,W8]
theorem E8 (t:Tm) (B:List (List AV)) (hm:t.mass < 100000000):call F.tb 210 [.agg (Qb t)] B=some (.sl true 4 (encTs (Y0 t)),B):=by
 rw[Qa F.tb_210 _ _ rfl]
 have h:=O6 t 2 B hm
 simp[F.f210,F.f210C,QD,h,Y0]
end Go.Am
namespace Go.Am
set_option maxRecDepth 8000
theorem Yn {n:Nat} (h:n≤200000000):n*56≤140737488355328:=by omega
theorem QaW (t:Tm) (bs:List (List AV)) (hm:t.mass < 100000000) (ih: ∀x∈t.kids,∀bs,call F.tb 237 [.agg (Qb x)] bs=some (.sl false 4 (encTs (QR x)),bs)):
  ∀(post pre:List Tm) (ρ:Nat→AV),t.kids=pre ++ post→ρ 1= .bx (Qb t)→ρ 3= .sl true 4 (encTs (t:: allL pre))→ρ 4= .int .i64 pre.length→
  R F.tb (.loop F.f237l0) ρ bs (Qk 0 (Qw F.tb F.f237r0 (QB F.f237 bs)))=some (.sl false 4 (encTs (QR t)),bs):=by
 have hmk:=Qq t
 have hn:=Ze t
 have hnk:=Yo t
 intro post
 induction post with
 | nil=>
  intro pre ρ hk h1 h3 h4
  simp only[List.append_nil]at hk
  rw[← hk]at h3 h4
  rw[← QdT]at h3
  rw[Qc F.f237l0.eq_1]
  simp[h1,h3,h4,F.f237r0,F.f237R,F.f237K]
 | cons x post IH=>
  intro pre ρ hk h1 h3 h4
  have hg:=Qp hk
  have hl:t.kids.length=pre.length+ (post.length+1):=by rw[hk];simp
  have hw1:IntKind.i64.wrap ((pre.length:Int)+1)=(pre.length:Int)+1:=Qj (by omega) (by omega)
  have hlt: (pre.length:Int) < (t.kids.length:Int):=by omega
  have hnn:nodesL t.kids=nodesL pre+ (x.nodes+nodesL post):=by rw[hk,ZW];simp[nodesL]
  have hb: ((allL pre).length+1+ (QR x).length)*56≤140737488355328:=by rw[allL_len,Xh];omega
  have hgl:t.kids[pre.length]'(by omega)=x:=by
   have:=List.getElem?_eq_getElem (l:=t.kids) (i:=pre.length) (by omega)
   rw[hg]at this;injection this with this;exact this.symm
  have hih:=ih x (by rw[hk];simp)
  have h2:=IH (pre ++ [x])
  rw[I0,show allL [x]=QR x by simp[allL]]at h2
  rw[Qc F.f237l0.eq_1]
  simp[h1,h3,h4,hg,hgl,hlt,hw1,hih,hb,QS]
  rw[h2] <;> simp[h1,hk]
theorem VU: ∀(t:Tm) (bs:List (List AV)),t.mass < 100000000→call F.tb 237 [.agg (Qb t)] bs=some (.sl false 4 (encTs (QR t)),bs):=by
 refine Zd ?_
 intro k n s ks ih bs hm
 have hl:=fun ρ=>QaW (.mk k n s ks) bs hm (fun x hx bs=>ih x hx bs (by have:=QA hx;have:=Qq (.mk k n s ks);simp at *;omega)) ks [] ρ rfl
 rw[Qa F.tb_237 _ _ rfl]
 simp[F.f237B,F.f237C,QD]
 refine hl _ ?_ ?_ ?_ <;> simp[allL,encTs]
theorem QaV (l:List Tm) (t:Tm) (bs:List (List AV)) (hl:l.length < 100000000) (hm: ∀x∈l,x.mass < big) (ht:t.mass < big):
  ∀(post pre acc:List Tm) (d:Bool) (ρ:Nat→AV),l=pre ++ post→acc.length≤pre.length+1→(d=false→acc.length=pre.length)→ρ 0= .sl false 4 (encTs l)→ρ 3= .bx (Qb t)→ρ 5= .sl true 4 (encTs acc)→ρ 6= .bool d→ρ 7= .int .i64 pre.length→
  R F.tb (.loop F.f239l0) ρ bs (Qk 0 (Qw F.tb F.f239r0 (QB F.f239 bs)))=some (.sl false 4 (encTs (acc ++ if d then post else ZZ t post)),bs):=by
 intro post
 induction post with
 | nil=>
  intro pre acc d ρ hk ha hd h0 h3 h5 h6 h7
  simp only[List.append_nil]at hk
  rw[← hk]at h7 ha hd
  have hb: (acc.length+1)*56≤140737488355328:=by omega
  rw[Qc F.f239l0.eq_1]
  cases d
  ·simp[h0,h3,h5,h6,h7,F.f239r0,F.f239R,F.f239K,hb,ZZ,QD,Q0,QS]
  ·simp[h0,h3,h5,h6,h7,F.f239r0,F.f239R,F.f239K,hb,ZZ]
 | cons x post IH=>
  intro pre acc d ρ hk ha hd h0 h3 h5 h6 h7
  have hg:=Qp hk
  have hll:l.length=pre.length+ (post.length+1):=by rw[hk];simp
  have hw1:IntKind.i64.wrap ((pre.length:Int)+1)=(pre.length:Int)+1:=Qj (by omega) (by omega)
  have hlt: (pre.length:Int) < (l.length:Int):=by omega
  have hb: (acc.length+1)*56≤140737488355328:=Yn (by omega)
  have hb2: (acc.length+1+1)*56≤140737488355328:=Yn (by clear hb;omega)
  have hc:=Xv t x bs ht (hm x (by rw[hk];simp))
  rw[Qc F.f239l0.eq_1]
  cases d
  ·have hd:=hd rfl
   by_cases h1:Qm t x < 0
   ·have hle:Qm t x≤0:=by omega
    have e:acc ++ (if false=true then x:: post else ZZ t (x:: post))=(acc ++ [t]++ [x])++ (if true=true then post else ZZ t post):=by simp[ZZ,h1]
    rw[e]
    simp[h0,h3,h5,h6,h7,hg,hlt,hw1,hc,h1,hle,hb,hb2,QD,Q0,QS]
    clear hb hb2
    rw[IH (pre ++ [x]) (acc ++ [t]++ [x]) true] <;> simp[h0,h3,hk] <;> omega
   ·by_cases h2:Qm t x=0
    ·have e:acc ++ (if false=true then x:: post else ZZ t (x:: post))=(acc ++ [x])++ (if true=true then post else ZZ t post):=by simp[ZZ,h2]
     rw[e]
     simp[h0,h3,h5,h6,h7,hg,hlt,hw1,hc,h1,h2,hb,QD,Q0,QS]
     clear hb hb2
     rw[IH (pre ++ [x]) (acc ++ [x]) true] <;> simp[h0,h3,hk] <;> omega
    ·have hle: ¬Qm t x≤0:=by omega
     have e:acc ++ (if false=true then x:: post else ZZ t (x:: post))=(acc ++ [x])++ (if false=true then post else ZZ t post):=by simp[ZZ,h1,h2]
     rw[e]
     simp[h0,h3,h5,h6,h7,hg,hlt,hw1,hc,h1,h2,hle,hb,QD,Q0,QS]
     clear hb hb2
     rw[IH (pre ++ [x]) (acc ++ [x]) false] <;> simp[h0,h3,hk] <;> omega
  ·have e:acc ++ (if true=true then x:: post else ZZ t (x:: post))=(acc ++ [x])++ (if true=true then post else ZZ t post):=by simp
   rw[e]
   simp[h0,h3,h5,h6,h7,hg,hlt,hw1,hc,hb,QD,Q0,QS]
   clear hb hb2
   rw[IH (pre ++ [x]) (acc ++ [x]) true] <;> simp[h0,h3,hk] <;> omega
theorem Nr (l:List Tm) (t:Tm) (o:Bool) (bs:List (List AV)) (hl:l.length < 100000000) (hm: ∀x∈l,x.mass < big) (ht:t.mass < big):
  call F.tb 239 [.sl o 4 (encTs l),.agg (Qb t)] bs=some (.sl false 4 (encTs (ZZ t l)),bs):=by
 have h:=fun ρ=>QaV l t bs hl hm ht l [] [] false ρ rfl (by simp) (fun _=>rfl)
 rw[Qa F.tb_239 _ _ rfl]
 simp[F.f239B,F.f239C]
 simp at h
 refine h _ ?_ ?_ ?_ ?_ ?_ <;> simp[encTs]
theorem Qa6 (l:List Tm) (bs:List (List AV)) (hl:l.length < 100000000) (hm: ∀x∈l,x.mass < big):
  ∀(post pre acc:List Tm) (o:Bool) (ρ:Nat→AV),l=pre ++ post→acc.length≤pre.length→(∀x∈acc,x.mass < big)→ρ 0= .sl false 4 (encTs l)→ρ 3= .sl o 4 (encTs acc)→ρ 4= .int .i64 pre.length→
  R F.tb (.loop F.f238l0) ρ bs (Qk 0 (Qw F.tb F.f238r0 (QB F.f238 bs)))=some (.sl false 4 (encTs (Wh acc post)),bs):=by
 intro post
 induction post with
 | nil=>
  intro pre acc o ρ hk ha hma h0 h3 h4
  simp only[List.append_nil]at hk
  rw[← hk]at h4
  rw[Qc F.f238l0.eq_1]
  simp[h0,h3,h4,F.f238r0,F.f238R,F.f238K,Wh]
 | cons x post IH=>
  intro pre acc o ρ hk ha hma h0 h3 h4
  have hg:=Qp hk
  have hll:l.length=pre.length+ (post.length+1):=by rw[hk];simp
  have hw1:IntKind.i64.wrap ((pre.length:Int)+1)=(pre.length:Int)+1:=Qj (by omega) (by omega)
  have hlt: (pre.length:Int) < (l.length:Int):=by omega
  have hx:=hm x (by rw[hk];simp)
  have hc:=Nr acc x false bs (by omega) hma hx
  have hln:=Tk x acc
  rw[Qc F.f238l0.eq_1]
  simp[h0,h3,h4,hg,hlt,hw1,hc]
  rw[IH (pre ++ [x]) (ZZ x acc) false] <;> (try simp[h0,hk,Wh])
  ·omega
  ·intro y hy
   rcases VZ.1 hy with rfl | hy
   ·exact hx
   ·exact hma y hy
theorem Hc (l:List Tm) (o:Bool) (bs:List (List AV)) (hl:l.length < 100000000) (hm: ∀x∈l,x.mass < big):
  call F.tb 238 [.sl o 4 (encTs l)] bs=some (.sl false 4 (encTs (YZ l)),bs):=by
 have h:=fun ρ=>Qa6 l bs hl hm l [] [] true ρ rfl (by simp) (by simp)
 rw[Qa F.tb_238 _ _ rfl]
 simp[F.f238B,F.f238C]
 refine h _ ?_ ?_ ?_ <;> simp[encTs]
theorem KV (l:List Tm) (bs:List (List AV)) (hl:l.length < 100000000) (hm:massL l < 100000000):
  ∀(post pre:List Tm) (ρ:Nat→AV),l=pre ++ post→ρ 0= .sl false 4 (encTs l)→ρ 3= .sl true 4 (encTs (allL pre))→ρ 4= .int .i64 pre.length→
  R F.tb (.loop F.f265l0) ρ bs (Qk 0 (Qw F.tb F.f265r0 (QB F.f265 bs)))=some (.sl false 4 (encTs (YZ (allL l))),bs):=by
 have hnm:=nodesL_le_mass l
 intro post
 induction post with
 | nil=>
  intro pre ρ hk h0 h3 h4
  simp only[List.append_nil]at hk
  rw[← hk]at h4 h3
  have hc:=fun o=>Hc (allL l) o bs (by rw[allL_len];omega) (fun x hx=>by have:=allL_mass l x hx;unfold big;omega)
  rw[Qc F.f265l0.eq_1]
  simp[h0,h3,h4,F.f265r0,F.f265R,F.f265K,hc]
 | cons x post IH=>
  intro pre ρ hk h0 h3 h4
  have hg:=Qp hk
  have hll:l.length=pre.length+ (post.length+1):=by rw[hk];simp
  have hw1:IntKind.i64.wrap ((pre.length:Int)+1)=(pre.length:Int)+1:=Qj (by omega) (by omega)
  have hlt: (pre.length:Int) < (l.length:Int):=by omega
  have hxm:x∈l:=by rw[hk];simp
  have hc:=VU x bs (by have:=QA hxm;omega)
  have hnn:nodesL l=nodesL pre+ (x.nodes+nodesL post):=by rw[hk,ZW];simp[nodesL]
  have hb: ((allL pre).length+ (QR x).length)*56≤140737488355328:=by rw[allL_len,Xh];omega
  have h2:=IH (pre ++ [x])
  rw[I0,show allL [x]=QR x by simp[allL]]at h2
  rw[Qc F.f265l0.eq_1]
  simp[h0,h3,h4,hg,hlt,hw1,hc,hb,QS]
  rw[h2] <;> simp[h0,hk]
theorem K1 (l:List Tm) (o:Bool) (bs:List (List AV)) (hl:l.length < 100000000) (hm:massL l < 100000000):
  call F.tb 265 [.sl o 4 (encTs l)] bs=some (.sl false 4 (encTs (YZ (allL l))),bs):=by
 have h:=fun ρ=>KV l bs hl hm l [] ρ rfl
 rw[Qa F.tb_265 _ _ rfl]
 simp[F.f265B,F.f265C]
 refine h _ ?_ ?_ ?_ <;> simp[encTs,allL]
theorem A6 (t:Tm) (k:Int) (bs:List (List AV)) (hm:t.mass < 100000000):
  ∀(post pre:List Tm) (o:Bool) (ρ:Nat→AV),QR t=pre ++ post→ρ 1= .int .i64 k→ρ 5= .sl true 4 (encTs (pre.filter (ZK k)))→ρ 6= .sl o 4 (encTs (QR t))→ρ 7= .int .i64 pre.length→
  R F.tb (.loop F.f236l0) ρ bs (Qk 0 (Qw F.tb F.f236r0 (QB F.f236 bs)))=some (.sl false 4 (encTs (YZ ((QR t).filter (ZK k)))),bs):=by
 have hn:=Ze t
 have hal:=Xh t
 intro post
 induction post with
 | nil=>
  intro pre o ρ hk h1 h5 h6 h7
  simp only[List.append_nil]at hk
  rw[← hk]at h5 h7
  have hfl:=List.length_filter_le (ZK k) (QR t)
  have hc:=fun o=>Hc ((QR t).filter (ZK k)) o bs (by omega) (fun x hx=>by have:=Xb t x (List.mem_filter.1 hx).1;unfold big;omega)
  rw[Qc F.f236l0.eq_1]
  simp[h1,h5,h6,h7,F.f236r0,F.f236R,F.f236K,hc]
 | cons x post IH=>
  intro pre o ρ hk h1 h5 h6 h7
  have hg:=Qp hk
  have hll: (QR t).length=pre.length+ (post.length+1):=by rw[hk];simp
  have hw1:IntKind.i64.wrap ((pre.length:Int)+1)=(pre.length:Int)+1:=Qj (by omega) (by omega)
  have hlt: (pre.length:Int) < ((QR t).length:Int):=by omega
  have hfl:=List.length_filter_le (ZK k) pre
  have hb: ((pre.filter (ZK k)).length+1)*56≤140737488355328:=by omega
  have h2:=IH (pre ++ [x]) o
  rw[Qc F.f236l0.eq_1]
  by_cases hx:x.kind=k
  ·have hf: (pre ++ [x]).filter (ZK k)=pre.filter (ZK k)++ [x]:=by simp[List.filter_cons,ZK,hx]
   rw[hf]at h2
   simp[h1,h5,h6,h7,hg,hlt,hw1,hx,hb,QD,Q0,QS]
   rw[h2] <;> simp[h1,h6,hk]
  ·have hf: (pre ++ [x]).filter (ZK k)=pre.filter (ZK k):=by simp[List.filter_cons,ZK,hx]
   rw[hf]at h2
   simp[h1,h5,h6,h7,hg,hlt,hw1,hx]
   rw[h2] <;> simp[h1,h5,h6,hk]
theorem Db (t:Tm) (k:Int) (bs:List (List AV)) (hm:t.mass < 100000000):call F.tb 236 [.agg (Qb t),.int .i64 k] bs=some (.sl false 4 (encTs (YZ ((QR t).filter (ZK k)))),bs):=by
 have h:=fun o ρ=>A6 t k bs hm (QR t) [] o ρ rfl
 have hc:=VU t bs hm
 rw[Qa F.tb_236 _ _ rfl]
 simp[F.f236B,F.f236C,QD,hc]
 refine h false _ ?_ ?_ ?_ ?_ <;> simp[encTs]
theorem Da (t:Tm) (bs:List (List AV)) (hm:t.mass < 100000000):call F.tb 235 [.agg (Qb t)] bs=some (.sl false 4 (encTs (W8 t)),bs):=by
 have h:=Db t 1 bs hm
 rw[Qa F.tb_235 _ _ rfl]
 simp[F.f235,F.f235C,QD,h,W8]
theorem Gz (t:Tm) (bs:List (List AV)) (hm:t.mass < 100000000):call F.tb 234 [.agg (Qb t)] bs=some (.bool (decide ((W8 t)=[])),bs):=by
 have h:=Da t bs hm
 rw[Qa F.tb_234 _ _ rfl]
 simp[F.f234,F.f234C,QD,h]
end Go.Am
namespace Go.Am
set_option maxRecDepth 8000
def Wx (l:List Tm) (t:Tm):Bool:=l.any fun x=>decide (Qm x t=0)
theorem NC {l:List Tm} {t:Tm}:Wx l t=true↔t∈l:=by
 simp only[Wx,List.any_eq_true,decide_eq_true_eq]
 constructor
 ·rintro⟨x,hx,h⟩;rw[← ZP _ _ h];exact hx
 ·intro h;exact⟨t,h,XA t⟩
def XQ (l:List Tm) (t:Tm):List Tm:=if Wx l t then l.filter (fun x=> !decide (Qm x t=0))else ZZ t l
def ZR (a b:List Tm):List Tm:=b.foldl XQ a
theorem E5 {l:List Tm} (p:Tm→Bool) (h:Asc l):Asc (l.filter p):=List.Pairwise.filter _ h
theorem Qbc {l:List Tm} (t:Tm) (h:Asc l):Asc (XQ l t):=by
 unfold XQ
 split
 ·exact E5 _ h
 ·exact Nm h
theorem HS {l:List Tm} {t y:Tm}:y∈XQ l t↔(y∈l∧y≠t)∨(y=t∧t ∉ l):=by
 unfold XQ
 split
 ·rename_i h
  rw[NC]at h
  simp only[List.mem_filter,Bool.not_eq_true',decide_eq_false_iff_not,Hr]
  constructor
  ·rintro⟨h1,h2⟩;exact .inl ⟨h1,h2⟩
  ·rintro(⟨h1,h2⟩ | ⟨rfl,h2⟩)
   ·exact⟨h1,h2⟩
   ·exact absurd h h2
 ·rename_i h
  rw[NC]at h
  rw[VZ]
  constructor
  ·rintro(rfl | h1)
   ·exact .inr ⟨rfl,h⟩
   ·refine .inl ⟨h1,fun e=> ?_⟩
    subst e;exact h h1
  ·rintro(⟨h1,h2⟩ | ⟨h1,h2⟩)
   ·exact .inr h1
   ·exact .inl h1
theorem Ui: ∀(b a:List Tm),Asc a→Asc (ZR a b)
 | [],_,h=>h
 | x:: b,a,h=>Ui b _ (Qbc x h)
theorem Oi {y:Tm}: ∀{b a:List Tm},Asc b→(y∈ZR a b↔(y∈a∧y ∉ b)∨(y ∉ a∧y∈b))
 | [],a,_=>by simp[ZR]
 | x:: b,a,h=>by
  rw[ZT]at h
  have ih:=Oi (y:=y) (b:=b) (a:=XQ a x) h.2
  have hxb:x ∉ b:=fun hm=>XW x (h.1 x hm)
  simp only[ZR,List.foldl_cons]at ih ⊢
  rw[ih,HS]
  simp only[List.mem_cons]
  by_cases e:y=x
  ·subst e
   by_cases hy:y∈a <;> simp[hy,hxb]
  ·by_cases hy:y∈a <;> by_cases hb:y∈b <;> simp[hy,hb,e]
theorem WD: ∀(b a:List Tm),(ZR a b).length≤a.length+b.length
 | [],a=>by simp[ZR]
 | x:: b,a=>by
  have ih:=WD b (XQ a x)
  have: (XQ a x).length≤a.length+1:=by
   unfold XQ
   split
   ·have:=List.length_filter_le (fun y=> !decide (Qm y x=0)) a;omega
   ·exact Tk x a
  simp only[ZR,List.foldl_cons,List.length_cons]at ih ⊢
  omega
def Y8:List Tm→List Tm→List Tm
 | [],b=>b
 | a,[]=>a
 | x:: a,y:: b=>if Qm x y < 0 then x:: Y8 a (y:: b)else if 0 < Qm x y then y:: Y8 (x:: a) b else Y8 a b
termination_by a b=>a.length+b.length
theorem Ol (b:List Tm):Y8 [] b=b:=by rw[Y8]
theorem Pp (a:List Tm):Y8 a []=a:=by cases a <;> rw[Y8];simp
theorem Po (x y:Tm) (a b:List Tm):Y8 (x:: a) (y:: b)=if Qm x y < 0 then x:: Y8 a (y:: b)else if 0 < Qm x y then y:: Y8 (x:: a) b else Y8 a b:=by rw[Y8]
theorem Vp {y:Tm}: ∀(n:Nat) (a b:List Tm),a.length+b.length≤n→Asc a→Asc b→(y∈Y8 a b↔(y∈a∧y ∉ b)∨(y ∉ a∧y∈b))
 | _,[],b,_,_,_=>by rw[Ol];simp
 | _,x:: a,[],_,_,_=>by rw[Pp];simp
 | 0,x:: a,z:: b,h,_,_=>by simp at h
 | n+1,x:: a,z:: b,h,ha,hb=>by
  have ha0:=ha
  have hb0:=hb
  rw[ZT]at ha hb
  simp only[List.length_cons]at h
  rw[Po]
  split
  ·rename_i h1
   rw[List.mem_cons,Vp n a (z:: b) (by simp;omega) ha.2 hb0]
   have hxb:x ∉ z:: b:=fun hm=>by
    rcases List.mem_cons.1 hm with e | e
    ·subst e;exact XW x h1
    ·exact XW x (Z8 h1 (hb.1 x e))
   have hxa:x ∉ a:=fun hm=>XW x (ha.1 x hm)
   by_cases e:y=x
   ·subst e;simp[hxb]
   ·simp[e]
  ·rename_i h1
   split
   ·rename_i h2
    have h2':=Mq.1 h2
    rw[List.mem_cons,Vp n (x:: a) b (by simp;omega) ha0 hb.2]
    have hza:z ∉ x:: a:=fun hm=>by
     rcases List.mem_cons.1 hm with e | e
     ·subst e;exact XW z h2'
     ·exact XW z (Z8 h2' (ha.1 z e))
    have hzb:z ∉ b:=fun hm=>XW z (hb.1 z hm)
    by_cases e:y=z
    ·subst e;simp[hza]
    ·simp[e]
   ·rename_i h2
    have e0:=ZP x z (by omega)
    subst e0
    rw[Vp n a b (by omega) ha.2 hb.2]
    have hxa:x ∉ a:=fun hm=>XW x (ha.1 x hm)
    have hxb:x ∉ b:=fun hm=>XW x (hb.1 x hm)
    by_cases e:y=x
    ·subst e;simp[hxa,hxb]
    ·simp[e]
theorem TJ: ∀(n:Nat) (a b:List Tm),a.length+b.length≤n→Asc a→Asc b→Asc (Y8 a b)
 | _,[],b,_,_,hb=>by rw[Ol];exact hb
 | _,x:: a,[],_,ha,_=>by rw[Pp];exact ha
 | 0,x:: a,z:: b,h,_,_=>by simp at h
 | n+1,x:: a,z:: b,h,ha,hb=>by
  have ha0:=ha
  have hb0:=hb
  rw[ZT]at ha hb
  simp only[List.length_cons]at h
  rw[Po]
  split
  ·rename_i h1
   rw[ZT]
   refine⟨fun y hy=> ?_,TJ n a (z:: b) (by simp;omega) ha.2 hb0⟩
   rw[Vp n a (z:: b) (by simp;omega) ha.2 hb0]at hy
   rcases hy with⟨hy,_⟩ | ⟨_,hy⟩
   ·exact ha.1 y hy
   ·rcases List.mem_cons.1 hy with e | e
    ·subst e;exact h1
    ·exact Z8 h1 (hb.1 y e)
  ·rename_i h1
   split
   ·rename_i h2
    have h2':=Mq.1 h2
    rw[ZT]
    refine⟨fun y hy=> ?_,TJ n (x:: a) b (by simp;omega) ha0 hb.2⟩
    rw[Vp n (x:: a) b (by simp;omega) ha0 hb.2]at hy
    rcases hy with⟨hy,_⟩ | ⟨_,hy⟩
    ·rcases List.mem_cons.1 hy with e | e
     ·subst e;exact h2'
     ·exact Z8 h2' (ha.1 y e)
    ·exact hb.1 y hy
   ·exact TJ n a b (by omega) ha.2 hb.2
theorem H3 {a b:List Tm} (ha:Asc a) (hb:Asc b):Y8 a b=ZR a b:=
 OI (TJ _ a b (Nat.le_refl _) ha hb) (Ui b a ha) fun x=>by rw[Vp _ a b (Nat.le_refl _) ha hb,Oi hb]
def Q9:List UInt8:=[122,101,114,111]
def XOR:List UInt8:=[120,111,114]
mutual
def Zi:Tm→List Tm
 | .mk k n s ks=>if k=3∧n=Q9∧ks=[]then []else if k=3∧n=XOR then sumL [] ks else [.mk k n s ks]
def sumL (acc:List Tm):List Tm→List Tm
 | []=>acc
 | t:: ts=>sumL (ZR acc (Zi t)) ts
end
mutual
theorem Va: ∀t:Tm,Asc (Zi t)
 | .mk k n s ks=>by
  simp only[Zi]
  split
  ·exact Asc.nil
  ·split
   ·exact asc_sumL ks [] Asc.nil
   ·exact OJ _
theorem asc_sumL: ∀(ts acc:List Tm),Asc acc→Asc (sumL acc ts)
 | [],_,h=>h
 | t:: ts,acc,h=>asc_sumL ts _ (Ui _ _ h)
end
theorem Wz {y:Tm} {b a:List Tm} (hb:Asc b) (h:y∈ZR a b):y∈a∨y∈b:=by
 rw[Oi hb]at h
 rcases h with h | h
 ·exact .inl h.1
 ·exact .inr h.2
mutual
theorem TE: ∀(t y:Tm),y∈Zi t→y∈QR t
 | .mk k n s ks,y,h=>by
  simp only[Zi]at h
  simp only[QR,List.mem_cons]
  split at h
  ·simp at h
  ·split at h
   ·rcases sumL_mem ks [] y h with h | h
    ·simp at h
    ·exact .inr h
   ·simp at h;exact .inl h
theorem sumL_mem: ∀(ts acc:List Tm) (y:Tm),y∈sumL acc ts→y∈acc∨y∈allL ts
 | [],acc,y,h=> .inl h
 | t:: ts,acc,y,h=>by
  simp only[allL,List.mem_append]
  rcases sumL_mem ts _ y h with h | h
  ·rcases Wz (Va t) h with h | h
   ·exact .inl h
   ·exact .inr (.inl (TE t y h))
  ·exact .inr (.inr h)
end
mutual
theorem TD: ∀t:Tm,(Zi t).length≤t.nodes
 | .mk k n s ks=>by
  simp only[Zi,Tm.nodes]
  split
  ·simp
  ·split
   ·have:=sumL_len ks [];simp at this;omega
   ·simp
theorem sumL_len: ∀(ts acc:List Tm),(sumL acc ts).length≤acc.length+nodesL ts
 | [],acc=>by simp[sumL,nodesL]
 | t:: ts,acc=>by
  have h1:=sumL_len ts (ZR acc (Zi t))
  have h2:=WD (Zi t) acc
  have h3:=TD t
  simp only[sumL,nodesL]at *
  omega
end
theorem KY (l:List Tm) (t:Tm) (bs:List (List AV)) (hl:l.length < 100000000) (hm: ∀x∈l,x.mass < big) (ht:t.mass < big):
  ∀(post pre:List Tm) (ρ:Nat→AV),l=pre ++ post→ρ 0= .sl false 4 (encTs l)→ρ 3= .bx (Qb t)→ρ 5= .int .i64 pre.length→
  R F.tb (.loop F.f250l0) ρ bs (Qk 0 (Qw F.tb F.f250r0 (QB F.f250 bs)))=some (.bool (Wx post t),bs):=by
 intro post
 induction post with
 | nil=>
  intro pre ρ hk h0 h3 h5
  simp only[List.append_nil]at hk
  rw[← hk]at h5
  rw[Qc F.f250l0.eq_1]
  simp[h0,h3,h5,F.f250r0,F.f250R,F.f250K,Wx]
 | cons x post IH=>
  intro pre ρ hk h0 h3 h5
  have hg:=Qp hk
  have hll:l.length=pre.length+ (post.length+1):=by rw[hk];simp
  have hw1:IntKind.i64.wrap ((pre.length:Int)+1)=(pre.length:Int)+1:=Qj (by omega) (by omega)
  have hlt: (pre.length:Int) < (l.length:Int):=by omega
  have hc:=Y2 x t bs (hm x (by rw[hk];simp)) ht
  rw[Qc F.f250l0.eq_1]
  by_cases he:Qm x t=0
  ·simp[h0,h3,h5,hg,hlt,hw1,hc,he,QD,Wx,F.f250R,F.f250K]
  ·have e:Wx (x:: post) t=Wx post t:=by simp[Wx,he]
   rw[e]
   simp[h0,h3,h5,hg,hlt,hw1,hc,he,QD]
   rw[IH (pre ++ [x])] <;> simp[h0,h3,hk]
theorem Ns (l:List Tm) (t:Tm) (o:Bool) (bs:List (List AV)) (hl:l.length < 100000000) (hm: ∀x∈l,x.mass < big) (ht:t.mass < big):
  call F.tb 250 [.sl o 4 (encTs l),.agg (Qb t)] bs=some (.bool (Wx l t),bs):=by
 have h:=fun ρ=>KY l t bs hl hm ht l [] ρ rfl
 rw[Qa F.tb_250 _ _ rfl]
 simp[F.f250B,F.f250C]
 refine h _ ?_ ?_ ?_ <;> simp
theorem QcH (l:List Tm) (t:Tm) (bs:List (List AV)) (hl:l.length < 100000000) (hm: ∀x∈l,x.mass < big) (ht:t.mass < big):
  ∀(post pre:List Tm) (ρ:Nat→AV),l=pre ++ post→ρ 0= .sl false 4 (encTs l)→ρ 3= .bx (Qb t)→ρ 5= .sl true 4 (encTs (pre.filter (fun x=> !decide (Qm x t=0))))→ρ 6= .int .i64 pre.length→
  R F.tb (.loop F.f249l0) ρ bs (Qk 0 (Qw F.tb F.f249r0 (QB F.f249 bs)))=some (.sl false 4 (encTs (l.filter (fun x=> !decide (Qm x t=0)))),bs):=by
 intro post
 induction post with
 | nil=>
  intro pre ρ hk h0 h3 h5 h6
  simp only[List.append_nil]at hk
  rw[← hk]at h5 h6
  rw[Qc F.f249l0.eq_1]
  simp[h0,h3,h5,h6,F.f249r0,F.f249R,F.f249K]
 | cons x post IH=>
  intro pre ρ hk h0 h3 h5 h6
  have hg:=Qp hk
  have hll:l.length=pre.length+ (post.length+1):=by rw[hk];simp
  have hw1:IntKind.i64.wrap ((pre.length:Int)+1)=(pre.length:Int)+1:=Qj (by omega) (by omega)
  have hlt: (pre.length:Int) < (l.length:Int):=by omega
  have hfl:=List.length_filter_le (fun x=> !decide (Qm x t=0)) pre
  have hb: ((pre.filter (fun x=> !decide (Qm x t=0))).length+1)*56≤140737488355328:=Yn (by omega)
  have hc:=Y2 x t bs (hm x (by rw[hk];simp)) ht
  have h2:=IH (pre ++ [x])
  rw[Qc F.f249l0.eq_1]
  by_cases he:Qm x t=0
  ·have hf: (pre ++ [x]).filter (fun x=> !decide (Qm x t=0))=pre.filter (fun x=> !decide (Qm x t=0)):=by simp[List.filter_cons,he]
   rw[hf]at h2
   generalize pre.filter (fun x=> !decide (Qm x t=0))=pf at *
   generalize l.filter (fun x=> !decide (Qm x t=0))=lf at *
   simp[h0,h3,h5,h6,hg,hlt,hw1,hc,he,QD]
   rw[h2] <;> simp[h0,h3,h5,hk]
  ·have hf: (pre ++ [x]).filter (fun x=> !decide (Qm x t=0))=pre.filter (fun x=> !decide (Qm x t=0))++ [x]:=by simp[List.filter_cons,he]
   rw[hf]at h2
   generalize pre.filter (fun x=> !decide (Qm x t=0))=pf at *
   generalize l.filter (fun x=> !decide (Qm x t=0))=lf at *
   simp[h0,h3,h5,h6,hg,hlt,hw1,hc,he,hb,QD,Q0,QS]
   rw[h2] <;> simp[h0,h3,hk]
theorem GF (l:List Tm) (t:Tm) (o:Bool) (bs:List (List AV)) (hl:l.length < 100000000) (hm: ∀x∈l,x.mass < big) (ht:t.mass < big):
  call F.tb 249 [.sl o 4 (encTs l),.agg (Qb t)] bs=some (.sl false 4 (encTs (XQ l t)),bs):=by
 have h:=fun ρ=>QcH l t bs hl hm ht l [] ρ rfl
 have hh:=Ns l t false bs hl hm ht
 have ha:=Nr l t false bs hl hm ht
 rw[Qa F.tb_249 _ _ rfl]
 cases hb:Wx l t
 ·have e:XQ l t=ZZ t l:=by simp[XQ,hb]
  rw[e]
  simp[F.f249B,F.f249C,QD,hh,hb,ha,F.f249R,F.f249K]
 ·have e:XQ l t=l.filter (fun x=> !decide (Qm x t=0)):=by simp[XQ,hb]
  rw[e]
  generalize l.filter (fun x=> !decide (Qm x t=0))=lf at *
  simp[F.f249B,F.f249C,QD,hh,hb]
  refine h _ ?_ ?_ ?_ ?_ <;> simp[encTs]
theorem EK (b:List Tm) (bs:List (List AV)) (hl:b.length < 40000000) (hm: ∀x∈b,x.mass < big):
  ∀(post pre acc:List Tm) (o:Bool) (ρ:Nat→AV),b=pre ++ post→acc.length+post.length < 90000000→(∀x∈acc,x.mass < big)→ρ 1= .sl false 4 (encTs b)→ρ 5= .sl o 4 (encTs acc)→ρ 6= .int .i64 pre.length→
  R F.tb (.loop F.f248l0) ρ bs (Qk 0 (Qw F.tb F.f248r0 (QB F.f248 bs)))=some (.sl false 4 (encTs (ZR acc post)),bs):=by
 intro post
 induction post with
 | nil=>
  intro pre acc o ρ hk ha hma h1 h5 h6
  simp only[List.append_nil]at hk
  rw[← hk]at h6
  rw[Qc F.f248l0.eq_1]
  simp[h1,h5,h6,F.f248r0,F.f248R,F.f248K,ZR]
 | cons x post IH=>
  intro pre acc o ρ hk ha hma h1 h5 h6
  have hg:=Qp hk
  have hll:b.length=pre.length+ (post.length+1):=by rw[hk];simp
  have hw1:IntKind.i64.wrap ((pre.length:Int)+1)=(pre.length:Int)+1:=Qj (by omega) (by omega)
  have hlt: (pre.length:Int) < (b.length:Int):=by omega
  have hx:=hm x (by rw[hk];simp)
  have hal:acc.length+ (post.length+1) < 90000000:=by simpa using ha
  have hc:=GF acc x false bs (by omega) hma hx
  have htl: (XQ acc x).length≤acc.length+1:=by
   have:=WD [x] acc;simpa[ZR]using this
  have htm: ∀y∈XQ acc x,y.mass < big:=fun y hy=>by
   rcases HS.1 hy with h | h
   ·exact hma y h.1
   ·rw[h.1];exact hx
  have h2:=fun ρ=>IH (pre ++ [x]) (XQ acc x) false ρ (by rw[hk];simp) (by omega) htm
  rw[Qc F.f248l0.eq_1]
  simp[h1,h5,h6,hg,hlt,hw1,hc]
  rw[show ZR acc (x:: post)=ZR (XQ acc x) post from rfl]
  refine h2 _ ?_ ?_ ?_ <;> simp[h1]
theorem N9 (a b:List Tm) (o o2:Bool) (bs:List (List AV)) (ha:a.length < 40000000) (hb:b.length < 40000000) (hma: ∀x∈a,x.mass < big) (hmb: ∀x∈b,x.mass < big):
  call F.tb 248 [.sl o 4 (encTs a),.sl o2 4 (encTs b)] bs=some (.sl false 4 (encTs (ZR a b)),bs):=by
 have h:=fun o ρ=>EK b bs hb hmb b [] a o ρ rfl (by omega) hma
 have hlim:a.length*56≤140737488355328:=Yn (by omega)
 rw[Qa F.tb_248 _ _ rfl]
 simp[F.f248B,F.f248C,hlim]
 refine h true _ ?_ ?_ ?_ <;> simp
theorem Cr (t:Tm) (bs:List (List AV)) (hm:t.mass < 30000000) (ih: ∀x∈t.kids,∀bs,∃o,call F.tb 247 [.agg (Qb x)] bs=some (.sl o 4 (encTs (Zi x)),bs)):
  ∀(post pre acc:List Tm) (o:Bool) (ρ:Nat→AV),t.kids=pre ++ post→acc.length+nodesL post < 30000000→(∀x∈acc,x.mass < big)→ρ 1= .bx (Qb t)→ρ 3= .sl o 4 (encTs acc)→ρ 4= .int .i64 pre.length→
  R F.tb (.loop F.f247l0) ρ bs (Qk 0 (Qw F.tb F.f247r0 (QB F.f247 bs)))=some (.sl false 4 (encTs (sumL acc post)),bs):=by
 have hmk:=Qq t
 intro post
 induction post with
 | nil=>
  intro pre acc o ρ hk ha hma h1 h3 h4
  simp only[List.append_nil]at hk
  rw[← hk]at h4
  rw[Qc F.f247l0.eq_1]
  simp[h1,h3,h4,F.f247r0,F.f247R,F.f247K,sumL]
 | cons x post IH=>
  intro pre acc o ρ hk ha hma h1 h3 h4
  have hg:=Qp hk
  have hll:t.kids.length=pre.length+ (post.length+1):=by rw[hk];simp
  have hgl:t.kids[pre.length]'(by omega)=x:=by
   have:=List.getElem?_eq_getElem (l:=t.kids) (i:=pre.length) (by omega)
   rw[hg]at this;injection this with this;exact this.symm
  have hw1:IntKind.i64.wrap ((pre.length:Int)+1)=(pre.length:Int)+1:=Qj (by omega) (by omega)
  have hlt: (pre.length:Int) < (t.kids.length:Int):=by omega
  have hxk:x∈t.kids:=by rw[hk];simp
  have hxm:=QA hxk
  have hxn:=Ze x
  have hsl:=TD x
  simp only[nodesL]at ha
  obtain⟨o1,hc1⟩:=ih x hxk bs
  have hsm: ∀y∈Zi x,y.mass < big:=fun y hy=>by have:=Xb x y (TE x y hy);unfold big;omega
  have hc2:=N9 acc (Zi x) false false bs (by omega) (by omega) hma hsm
  have hpl:=WD (Zi x) acc
  have hpm: ∀y∈ZR acc (Zi x),y.mass < big:=fun y hy=>by
   rcases Wz (Va x) hy with h | h
   ·exact hma y h
   ·exact hsm y h
  have h2:=fun ρ=>IH (pre ++ [x]) (ZR acc (Zi x)) false ρ (by rw[hk];simp) (by omega) hpm
  rw[Qc F.f247l0.eq_1]
  simp[h1,h3,h4,hg,hgl,hlt,hw1,hc1,hc2,sumL]
  refine h2 _ ?_ ?_ ?_ <;> simp[h1]
theorem LQ: ∀(t:Tm) (bs:List (List AV)),t.mass < 30000000→∃o,call F.tb 247 [.agg (Qb t)] bs=some (.sl o 4 (encTs (Zi t)),bs):=by
 refine Zd ?_
 intro k n s ks ih bs hm
 have hmk:=Qq (.mk k n s ks)
 have hnm:=nodesL_le_mass ks
 simp only[QO,Za]at hmk
 have hl:=fun ρ=>Cr (.mk k n s ks) bs hm (fun x hx bs=>ih x hx bs (by have:=QA hx;simp at this;omega)) ks [] [] true ρ rfl (by simp;omega) (by simp)
 rw[Qa F.tb_247 _ _ rfl]
 by_cases hk:k=3
 ·by_cases hz:n=Q9
  ·cases ks with
   | nil=>
    refine⟨true,?_⟩
    simp[F.f247B,F.f247C,Qb,encTs,Zi,hk,hz,Q9,F.f247R,F.f247K]
   | cons x xs=>
    refine⟨true,?_⟩
    simp only[Q9]at hz
    have: ¬((xs.length:Int)+1=0):=by omega
    simp[F.f247B,F.f247C,Qb,Zi,hk,hz,Q9,XOR,this,F.f247R,F.f247K,encTs]
  ·by_cases hx:n=XOR
   ·refine⟨false,?_⟩
    have e:Zi (.mk k n s ks)=sumL [] ks:=by simp[Zi,hk,hx,Q9,XOR]
    rw[e]
    have hb1: (n == [122,101,114,111])=false:=by simpa[Q9]using hz
    simp only[XOR]at hx
    simp[F.f247B,F.f247C,Qb,hk,hx]
    refine hl _ ?_ ?_ ?_ <;> simp[Qb,encTs,hk,hx]
   ·refine⟨true,?_⟩
    have e:Zi (.mk k n s ks)=[.mk k n s ks]:=by simp[Zi,hk,hx,hz]
    rw[e]
    have hb1: (n == [122,101,114,111])=false:=by simpa[Q9]using hz
    have hb2: (n == [120,111,114])=false:=by simpa[XOR]using hx
    have hb3: (n != [120,111,114])=true:=by simpa[XOR]using hx
    simp[F.f247B,F.f247C,Qb,hk,hb1,hb2,hb3,F.f247R,F.f247K,encTs]
 ·refine⟨true,?_⟩
  have e:Zi (.mk k n s ks)=[.mk k n s ks]:=by simp[Zi,hk]
  rw[e]
  have hb: (k != 3)=true:=by simp[hk]
  simp[F.f247B,F.f247C,Qb,hk,hb,F.f247R,F.f247K,encTs]
end Go.Am
namespace Go.Am
set_option maxRecDepth 8000
@[simp] theorem QjJ (x:Tm) (a:List Tm) (h:0 < (encTs (x:: a)).length): (encTs (x:: a))[0]=Qb x:=by simp[encTs]
def Wp (l:List Tm) (bs:List (List AV)) (r:Option (AV×List (List AV))):Prop:=∃o,r=some (.sl o 4 (encTs l),bs)
theorem Qag (bs:List (List AV)): ∀(n:Nat) (a b acc:List Tm) (o1 o2:Bool) (ρ:Nat→AV),a.length+b.length≤n→acc.length+a.length+b.length < 100000000→(∀x∈a,x.mass < big)→(∀x∈b,x.mass < big)→
   ρ 0= .sl o1 4 (encTs a)→ρ 1= .sl o2 4 (encTs b)→ρ 5= .sl true 4 (encTs acc)→
  Wp (acc ++ Y8 a b) bs (R F.tb (.loop F.f183l0) ρ bs (Qk 0 (Qw F.tb F.f183r0 (QB F.f183 bs)))):=by
 have hend: ∀(a b acc:List Tm) (o1 o2:Bool) (ρ:Nat→AV),(a=[]∨b=[])→acc.length+a.length+b.length < 100000000→ρ 0= .sl o1 4 (encTs a)→ρ 1= .sl o2 4 (encTs b)→ρ 5= .sl true 4 (encTs acc)→
   Wp (acc ++ Y8 a b) bs (R F.tb F.f183r0 ρ bs (QB F.f183 bs)):=by
  intro a b acc o1 o2 ρ hab hl h0 h1 h5
  have e:Y8 a b=a ++ b:=by
   rcases hab with rfl | rfl
   ·rw[Ol];simp
   ·rw[Pp];simp
  have hb1: (acc.length+a.length)*56≤140737488355328:=Yn (by omega)
  have hb2: (acc.length+ (a.length+b.length))*56≤140737488355328:=Yn (by clear hb1;omega)
  rw[e]
  refine⟨true,?_⟩
  simp[h0,h1,h5,hb1,hb2,F.f183r0,F.f183R,F.f183K,QS,Nat.add_assoc]
 intro n
 induction n with
 | zero=>
  intro a b acc o1 o2 ρ hn hl hma hmb h0 h1 h5
  have ha:a=[]:=List.eq_nil_of_length_eq_zero (by omega)
  subst ha
  have h2:=fun ρ=>hend [] b acc o1 o2 ρ (.inl rfl) hl
  rw[Qc F.f183l0.eq_1]
  simp[h0,h1,h5,encTs]
  refine h2 _ ?_ ?_ ?_ <;> simp[h0,h1,h5]
 | succ n IH=>
  intro a b acc o1 o2 ρ hn hl hma hmb h0 h1 h5
  match a,b with
  | [],b=>
   have h2:=fun ρ=>hend [] b acc o1 o2 ρ (.inl rfl) hl
   rw[Qc F.f183l0.eq_1]
   simp[h0,h1,h5,encTs]
   refine h2 _ ?_ ?_ ?_ <;> simp[h0,h1,h5]
  | x:: a,[]=>
   have h2:=fun ρ=>hend (x:: a) [] acc o1 o2 ρ (.inr rfl) hl
   have hp: (0:Int) < (a.length:Int)+1:=by omega
   rw[Qc F.f183l0.eq_1]
   simp[h0,h1,h5,hp]
   refine h2 _ ?_ ?_ ?_ <;> simp[h0,h1,h5]
  | x:: a,y:: b=>
   simp only[List.length_cons]at hn hl
   have hp: (0:Int) < (a.length:Int)+1:=by omega
   have hp2: (0:Int) < (b.length:Int)+1:=by omega
   have hp3: (1:Int)≤(a.length:Int)+1:=by omega
   have hp4: (1:Int)≤(b.length:Int)+1:=by omega
   have hc:=call_Compare x y bs (hma x (by simp)) (hmb y (by simp))
   have hb: (acc.length+1)*56≤140737488355328:=Yn (by omega)
   have et: (encTs (x:: a)).take ((encTs (x:: a)).length)=encTs (x:: a):=List.take_length
   have i1:=fun ρ=>IH a (y:: b) (acc ++ [x]) false o2 ρ (by simp;omega) (by simp;omega) (fun z hz=>hma z (by simp[hz])) hmb
   have i2:=fun ρ=>IH (x:: a) b (acc ++ [y]) o1 false ρ (by simp;omega) (by simp;omega) hma (fun z hz=>hmb z (by simp[hz]))
   have i3:=fun ρ=>IH a b acc false false ρ (by omega) (by omega) (fun z hz=>hma z (by simp[hz])) (fun z hz=>hmb z (by simp[hz]))
   rw[Qc F.f183l0.eq_1,Po]
   clear hn
   by_cases h1':Qm x y < 0
   ·simp only[h1',if_true]
    simp only[List.append_assoc,List.cons_append,List.nil_append]at i1
    simp[h0,h1,h5,hp,hp2,hp3,hc,h1',hb,Q0,QS,Pe,Pf]
    refine i1 _ ?_ ?_ ?_ <;> simp[h1]
   ·by_cases h2':0 < Qm x y
    ·simp only[h1',h2',if_true,if_false]
     simp only[List.append_assoc,List.cons_append,List.nil_append]at i2
     simp[h0,h1,h5,hp,hp2,hp4,hc,h1',h2',hb,Q0,QS,Pe,Pf]
     refine i2 _ ?_ ?_ ?_ <;> simp[h0]
    ·simp only[h1',h2',if_false]
     simp[h0,h1,h5,hp,hp2,hp3,hp4,hc,h1',h2',Pe,Pf]
     refine i3 _ ?_ ?_ ?_ <;> simp[h5]
theorem Kb (a b:List Tm) (o1 o2:Bool) (bs:List (List AV)) (hl:a.length+b.length < 100000000) (hma: ∀x∈a,x.mass < big) (hmb: ∀x∈b,x.mass < big):
  Wp (Y8 a b) bs (call F.tb 183 [.sl o1 4 (encTs a),.sl o2 4 (encTs b)] bs):=by
 have h:=fun ρ=>Qag bs _ a b [] false false ρ (Nat.le_refl _) (by simp;omega) hma hmb
 simp only[List.nil_append]at h
 rw[Qa F.tb_183 _ _ rfl]
 simp[F.f183B,F.f183C]
 refine h _ ?_ ?_ ?_ <;> simp[encTs]
theorem QcE (t:Tm) (bs:List (List AV)) (hm:t.mass < 30000000) (ih: ∀x∈t.kids,∀bs,Wp (Zi x) bs (call F.tb 182 [.agg (Qb x)] bs)):
  ∀(post pre acc:List Tm) (o:Bool) (ρ:Nat→AV),t.kids=pre ++ post→acc.length+nodesL post < 30000000→Asc acc→(∀x∈acc,x.mass < big)→ρ 3= .sl o 4 (encTs acc)→ρ 31= .sl false 4 (encTs t.kids)→ρ 32= .int .i64 t.kids.length→ρ 33= .int .i64 pre.length→
  R F.tb (.loop F.f182l0) ρ bs (Qk 1 (Qw F.tb F.f182r0 (Qk 0 (Qw F.tb F.f182r1 (QB F.f182 bs)))))=some (.sl false 4 (encTs (sumL acc post)),bs):=by
 have hmk:=Qq t
 intro post
 induction post with
 | nil=>
  intro pre acc o ρ hk ha has hma h3 h31 h32 h33
  simp only[List.append_nil]at hk
  rw[← hk]at h33
  rw[Qc F.f182l0.eq_1]
  simp[h3,h31,h32,h33,F.f182r0,F.f182R,F.f182K,sumL]
 | cons x post IH=>
  intro pre acc o ρ hk ha has hma h3 h31 h32 h33
  have hg:=Qp hk
  have hll:t.kids.length=pre.length+ (post.length+1):=by rw[hk];simp
  have hw1:IntKind.i64.wrap ((pre.length:Int)+1)=(pre.length:Int)+1:=Qj (by omega) (by omega)
  have hlt: (pre.length:Int) < (t.kids.length:Int):=by omega
  have hxk:x∈t.kids:=by rw[hk];simp
  have hxm:=QA hxk
  have hxn:=Ze x
  have hsl:=TD x
  simp only[nodesL]at ha
  obtain⟨o1,hc1⟩:=ih x hxk bs
  have hsm: ∀y∈Zi x,y.mass < big:=fun y hy=>by have:=Xb x y (TE x y hy);unfold big;omega
  obtain⟨o2,hc2⟩:=Kb acc (Zi x) false false bs (by omega) hma hsm
  rw[H3 has (Va x)]at hc2
  have hpl:=WD (Zi x) acc
  have hpm: ∀y∈ZR acc (Zi x),y.mass < big:=fun y hy=>by
   rcases Wz (Va x) hy with h | h
   ·exact hma y h
   ·exact hsm y h
  have h2:=fun ρ=>IH (pre ++ [x]) (ZR acc (Zi x)) o2 ρ (by rw[hk];simp) (by omega) (Ui _ _ has) hpm
  rw[Qc F.f182l0.eq_1]
  simp[h3,h31,h32,h33,hg,hlt,hw1,QD,hc1,hc2,sumL]
  refine h2 _ ?_ ?_ ?_ ?_ <;> simp[h31,h32]
theorem K3: ∀(t:Tm) (bs:List (List AV)),t.mass < 30000000→Wp (Zi t) bs (call F.tb 182 [.agg (Qb t)] bs):=by
 refine Zd ?_
 intro k n s ks ih bs hm
 have hmk:=Qq (.mk k n s ks)
 have hnm:=nodesL_le_mass ks
 simp only[QO,Za]at hmk
 have hl:=fun ρ=>QcE (.mk k n s ks) bs hm (fun x hx bs=>ih x hx bs (by have:=QA hx;simp at this;omega)) ks [] [] true ρ rfl (by simp;omega) Asc.nil (by simp)
 simp only[QO]at hl
 rw[Qa F.tb_182 _ _ rfl]
 by_cases hk:k=3
 ·by_cases hz:n=Q9
  ·cases ks with
   | nil=>
    refine⟨true,?_⟩
    simp[F.f182B,F.f182C,Qb,encTs,Zi,hk,hz,Q9,F.f182R,F.f182K]
   | cons x xs=>
    refine⟨true,?_⟩
    simp only[Q9]at hz
    have: ¬((xs.length:Int)+1=0):=by omega
    simp[F.f182B,F.f182C,Qb,Zi,hk,hz,Q9,XOR,this,F.f182R,F.f182K,encTs,F.f182r1]
  ·by_cases hx:n=XOR
   ·refine⟨false,?_⟩
    have e:Zi (.mk k n s ks)=sumL [] ks:=by simp[Zi,hk,hx,Q9,XOR]
    rw[e]
    simp only[XOR]at hx
    simp[F.f182B,F.f182C,Qb,hk,hx]
    refine hl _ ?_ ?_ ?_ ?_ <;> simp[encTs]
   ·refine⟨true,?_⟩
    have e:Zi (.mk k n s ks)=[.mk k n s ks]:=by simp[Zi,hk,hx,hz]
    rw[e]
    have hb1: (n == [122,101,114,111])=false:=by simpa[Q9]using hz
    have hb2: (n == [120,111,114])=false:=by simpa[XOR]using hx
    simp[F.f182B,F.f182C,Qb,hk,hb1,hb2,F.f182R,F.f182K,encTs,F.f182r1]
 ·refine⟨true,?_⟩
  have e:Zi (.mk k n s ks)=[.mk k n s ks]:=by simp[Zi,hk]
  rw[e]
  simp[F.f182B,F.f182C,Qb,hk,F.f182R,F.f182K,encTs,F.f182r1]
theorem KZ (t u:Tm) (o:Bool) (bs:List (List AV)) (ht:t.mass < big) (hu:u.mass < big):call F.tb 185 [.agg (Qb t),.sl o 1 [],.agg (Qb u)] bs=some (.tup [.agg (Qb u),.int .i64 0],bs):=by
 have h1:=fun bs=>Ut t bs ht
 have h2:=fun bs=>Ut u bs hu
 rw[Qa F.tb_185 _ _ rfl]
 have e1: ∀x y:List AV,(bs ++ [x]).set bs.length y=bs ++ [y]:=fun x y=>by rw[List.set_append];simp
 simp[F.f185B,F.f185C,h1,QD,e1,put]
 rw[Qc F.f185l0.eq_1]
 simp[F.f185r0,h2,QD,e1,put,F.f185R,F.f185K]
end Go.Am
namespace Go.Am
set_option maxRecDepth 8000
def VG (ls:List (List Tm)):List (List AV):=ls.map fun l=>[AV.sl false 4 (encTs l)]
theorem Kl {ls pre post:List (List Tm)} {x:List Tm} (h:ls=pre ++ x:: post): (VG ls)[pre.length]? =some [AV.sl false 4 (encTs x)]:=by subst h;simp[VG]
theorem Km (ls:List (List Tm)): (VG ls).length=ls.length:=by simp[VG]
theorem Ap (n:Nat) (bs:List (List AV)) (hn:n < 100000000):call F.tb 181 [.gs 0 0 0 0,.int .i64 n] bs=some (.sl true 4 [],bs):=by
 rw[XK F.tb_181]
 simp only[OR]
 rw[if_pos]
 refine⟨by omega,?_,by omega⟩
 simp
 exact Yn (by omega)
theorem Cm (ls:List (List Tm)) (bs:List (List AV)) (hl:ls.length < 1000) (hf:ls.flatten.length < 100000000):
  ∀(post pre:List (List Tm)) (ρ:Nat→AV),ls=pre ++ post→ρ 6= .sl true 4 (encTs pre.flatten)→ρ 25= .sl false 1 (VG ls)→ρ 26= .int .i64 ls.length→ρ 27= .int .i64 pre.length→
  R F.tb (.loop F.f180l1) ρ bs (Qk 2 (Qw F.tb F.f180r0 (QB F.f180 bs)))=some (.sl false 4 (encTs ls.flatten),bs):=by
 intro post
 induction post with
 | nil=>
  intro pre ρ hk h6 h25 h26 h27
  simp only[List.append_nil]at hk
  rw[← hk]at h27 h6
  rw[Qc F.f180l1.eq_1]
  simp[h6,h25,h26,h27,F.f180r0,F.f180R,F.f180K]
 | cons x post IH=>
  intro pre ρ hk h6 h25 h26 h27
  have hg:=Kl hk
  have hll:ls.length=pre.length+ (post.length+1):=by rw[hk];simp
  have hw1:IntKind.i64.wrap ((pre.length:Int)+1)=(pre.length:Int)+1:=Qj (by omega) (by omega)
  have hlt: (pre.length:Int) < (ls.length:Int):=by omega
  have hfl:ls.flatten.length=pre.flatten.length+ (x.length+post.flatten.length):=by rw[hk];simp
  have hb: (pre.flatten.length+x.length)*56≤140737488355328:=Yn (by omega)
  have h2:=IH (pre ++ [x])
  have e: (pre ++ [x]).flatten=pre.flatten ++ x:=by simp
  rw[e]at h2
  generalize pre.flatten=pf at *
  rw[Qc F.f180l1.eq_1]
  simp[h6,h25,h26,h27,hg,hlt,hw1,hb,QS]
  rw[h2] <;> simp[h25,h26,hk]
theorem Cl (ls:List (List Tm)) (bs:List (List AV)) (hl:ls.length < 1000) (hf:ls.flatten.length < 100000000):
  ∀(post pre:List (List Tm)) (ρ:Nat→AV),ls=pre ++ post→ρ 0= .sl false 1 (VG ls)→ρ 3= .int .i64 pre.flatten.length→ρ 9= .sl false 1 (VG ls)→ρ 10= .int .i64 ls.length→ρ 11= .int .i64 pre.length→
  R F.tb (.loop F.f180l0) ρ bs (Qk 0 (Qw F.tb F.f180r1 (QB F.f180 bs)))=some (.sl false 4 (encTs ls.flatten),bs):=by
 intro post
 induction post with
 | nil=>
  intro pre ρ hk h0 h3 h9 h10 h11
  simp only[List.append_nil]at hk
  rw[← hk]at h11 h3
  have hc:=Ap ls.flatten.length bs hf
  have h1:=fun ρ=>Cm ls bs hl hf ls [] ρ rfl
  generalize ls.flatten=lf at *
  rw[Qc F.f180l0.eq_1]
  simp[h0,h3,h9,h10,h11,F.f180r1,hc]
  refine h1 _ ?_ ?_ ?_ ?_ <;> simp[h0,encTs,Km]
 | cons x post IH=>
  intro pre ρ hk h0 h3 h9 h10 h11
  have hg:=Kl hk
  have hll:ls.length=pre.length+ (post.length+1):=by rw[hk];simp
  have hw1:IntKind.i64.wrap ((pre.length:Int)+1)=(pre.length:Int)+1:=Qj (by omega) (by omega)
  have hlt: (pre.length:Int) < (ls.length:Int):=by omega
  have hfl:ls.flatten.length=pre.flatten.length+ (x.length+post.flatten.length):=by rw[hk];simp
  have hw2:IntKind.i64.wrap ((pre.flatten.length:Int)+ (x.length:Int))=(pre.flatten.length:Int)+ (x.length:Int):=Qj (by omega) (by omega)
  have hnn: ¬((pre.flatten.length:Int)+ (x.length:Int) < 0):=by omega
  have h2:=IH (pre ++ [x])
  have e: ((pre ++ [x]).flatten.length:Int)=(pre.flatten.length:Int)+ (x.length:Int):=by simp
  rw[e]at h2
  generalize (pre.flatten.length:Int)=pf at *
  rw[Qc F.f180l0.eq_1]
  simp[h0,h3,h9,h10,h11,hg,hlt,hw1,hw2,hnn]
  rw[h2] <;> simp[h0,h9,h10,hk]
theorem T5 (ls:List (List Tm)) (o:Bool) (bs:List (List AV)) (hl:ls.length < 1000) (hf:ls.flatten.length < 100000000):
  call F.tb 180 [.sl o 1 (VG ls)] bs=some (.sl false 4 (encTs ls.flatten),bs):=by
 have h:=fun ρ=>Cl ls bs hl hf ls [] ρ rfl
 rw[Qa F.tb_180 _ _ rfl]
 simp[F.f180B,F.f180C]
 refine h _ ?_ ?_ ?_ ?_ ?_ <;> simp[Km]
def Wo:List Tm→Int
 | []=>0
 | t:: ts=>if QK t≠0 then QK t else Wo ts
theorem DX (l:List Tm) (bs:List (List AV)) (hl:l.length < 100000000) (hm: ∀x∈l,x.mass < big): ∀(post pre:List Tm) (ρ:Nat→AV),l=pre ++ post→ρ 14= .sl false 4 (encTs l)→ρ 15= .int .i64 l.length→ρ 16= .int .i64 pre.length→
  R F.tb (.loop F.f179l0) ρ bs (Qk 0 (Qw F.tb F.f179r0 (QB F.f179 bs)))=some (.int .i64 (Wo post),bs):=by
 intro post
 induction post with
 | nil=>
  intro pre ρ hk h14 h15 h16
  simp only[List.append_nil]at hk
  rw[← hk]at h16
  rw[Qc F.f179l0.eq_1]
  simp[h14,h15,h16,F.f179r0,F.f179R,F.f179K,Wo]
 | cons x post IH=>
  intro pre ρ hk h14 h15 h16
  have hg:=Qp hk
  have hll:l.length=pre.length+ (post.length+1):=by rw[hk];simp
  have hw1:IntKind.i64.wrap ((pre.length:Int)+1)=(pre.length:Int)+1:=Qj (by omega) (by omega)
  have hlt: (pre.length:Int) < (l.length:Int):=by omega
  have hc:=Xz x bs (hm x (by rw[hk];simp))
  rw[Qc F.f179l0.eq_1]
  by_cases hv:QK x=0
  ·simp[h14,h15,h16,hg,hlt,hw1,QD,hc,hv,Wo]
   rw[IH (pre ++ [x])] <;> simp[h14,h15,hk]
  ·simp[h14,h15,h16,hg,hlt,hw1,QD,hc,hv,Wo,F.f179R,F.f179K]
def XG (l:List Tm):Int:=if 200 < l.length then 3 else Wo l
theorem Dg (l:List Tm) (o o2:Bool) (bs:List (List AV)) (hl:l.length < 100000000) (hm: ∀x∈l,x.mass < big):call F.tb 179 [.sl o 4 (encTs l),.sl o2 4 []] bs=some (.int .i64 (XG l),bs):=by
 have h:=fun ρ=>DX l bs hl hm l [] ρ rfl
 have hc:=T5 [l,[]] false bs (by simp) (by simpa using hl)
 simp only[VG,List.map_cons,List.map_nil,List.flatten_cons,List.flatten_nil,List.append_nil,encTs]at hc
 rw[Qa F.tb_179 _ _ rfl]
 by_cases h2:200 < l.length
 ·have h2': (200:Int) < (l.length:Int):=by omega
  simp[F.f179B,F.f179C,h2',h2,XG,F.f179R,F.f179K]
 ·have h2': ¬(200:Int) < (l.length:Int):=by omega
  simp[F.f179B,F.f179C,h2',h2,XG,hc]
  refine h _ ?_ ?_ ?_ <;> simp
end Go.Am
namespace Go.Am
set_option maxRecDepth 8000
theorem QfL {c:List AV} {n p:Nat} {pre:List Tm} {x:Tm} {v:AV} (hc:c.length=n*4) (hp:p=pre.length) (hlt:p < n) (ht: (c.map AV.strip).take (p*4)=Qu pre) (hv:v.strip= .sl false 4 (encTs x.kids)):
  ((c.take (p*4)++ (Qb x ++ c.drop (p*4+4))).set (p*4+3) v).length=n*4∧
  ((((c.take (p*4)++ (Qb x ++ c.drop (p*4+4))).set (p*4+3) v).map AV.strip).take ((p+1)*4))=Qu (pre ++ [x]):=by
 have h1: (c.take (p*4)).length=p*4:=by rw[List.length_take];omega
 have h2:=QP x
 refine⟨by simp[h1,h2,hc];omega,?_⟩
 have e: (c.take (p*4)++ (Qb x ++ c.drop (p*4+4))).set (p*4+3) v=c.take (p*4)++ ([.int .i64 x.kind,.str x.name,.int .i64 x.sort,v]++ c.drop (p*4+4)):=by
  rw[List.set_append,if_neg (by omega),h1,show p*4+3 - p*4=3 by omega,QF]
  simp
 rw[e,List.map_append,List.map_append,List.map_take,ht]
 have h3: [AV.int .i64 x.kind,.str x.name,.int .i64 x.sort,v].map AV.strip=Qb x:=by rw[QF];simp[hv]
 have hr: (Qu pre).length=p*4:=by rw[Z1 QP,hp]
 rw[h3,← List.append_assoc,List.take_append_of_le_length (by simp[hr,h2];omega),List.take_of_length_le (by simp[hr,h2];omega)]
 simp[Qu,XZ,RY]
theorem Qb6 {c:List AV} {n p:Nat} {pre:List Tm} {x:Tm} (hc:c.length=n*4) (hp:p=pre.length) (hlt:p < n) (ht: (c.map AV.strip).take ((p+1)*4)=Qu (pre ++ [x])) (hx:x.kids=[]):
  (c.take (p*4+3)++ ([AV.sl false 4 []]++ c.drop (p*4+3+1))).length=n*4∧
  ((c.take (p*4+3)++ ([AV.sl false 4 []]++ c.drop (p*4+3+1))).map AV.strip).take ((p+1)*4)=Qu (pre ++ [x]):=by
 have h1: (c.take (p*4+3)).length=p*4+3:=by rw[List.length_take];omega
 refine⟨by simp[h1,hc];omega,?_⟩
 have hr:Qu (pre ++ [x])=Qu pre ++ [.int .i64 x.kind,.str x.name,.int .i64 x.sort]++ [.sl false 4 []]:=by
  simp[Qu,XZ,RY,QF,hx,encTs]
 have hl0: (Qu pre).length=p*4:=by rw[Z1 QP,hp]
 have e1: (c.take (p*4+3)).map AV.strip=Qu pre ++ [.int .i64 x.kind,.str x.name,.int .i64 x.sort]:=by
  have h2: ((c.map AV.strip).take ((p+1)*4)).take (p*4+3)=(c.map AV.strip).take (p*4+3):=by rw[List.take_take];congr 1;omega
  rw[List.map_take,← h2,ht,hr,List.take_append_of_le_length (by simp[hl0]),List.take_of_length_le (by simp[hl0])]
 rw[List.map_append,List.map_append,e1,← List.append_assoc,List.take_append_of_le_length (by simp[hl0];omega),List.take_of_length_le (by simp[hl0];omega),hr]
 simp
theorem Qb5 (l:List Tm) (B:List (List AV)) (hl:l.length < 100000000) (hne:l≠[]) (hm: ∀x∈l,x.mass < big) (ih: ∀x∈l,∀bs,Wp x.kids bs (call F.tb 184 [.sl false 4 (encTs x.kids)] bs)):
  ∀(post pre:List Tm) (c:List AV) (ρ:Nat→AV),l=pre ++ post→c.length=l.length*4→(c.map AV.strip).take (pre.length*4)=Qu pre→ρ 3= .gs B.length 0 4 l.length→ρ 9= .sl false 4 (encTs l)→ρ 10= .int .i64 l.length→ρ 11= .int .i64 pre.length→
  Wp l B (R F.tb (.loop F.f184l0) ρ (B ++ [c]) (Qk 0 (Qw F.tb F.f184r0 (QB F.f184 B)))):=by
 have es: ∀x y:List AV,(B ++ [x]).set B.length y=B ++ [y]:=fun x y=>by rw[List.set_append];simp
 have eg: ∀x:List AV,(B ++ [x])[B.length]? =some x:=fun x=>List.getElem?_concat_length
 intro post
 induction post with
 | nil=>
  intro pre c ρ hk hc ht h3 h9 h10 h11
  simp only[List.append_nil]at hk
  rw[← hk]at h11 ht
  have hz: ¬l.length=0:=fun e=>hne (List.eq_nil_of_length_eq_zero e)
  have hch:ZO c 0 4 l.length=encTs l:=by
   have e1:c.map AV.strip=Qu l:=by rw[← ht,List.take_of_length_le (by simp[hc])]
   have e2:ZO c 0 4 l.length=ZO (c.map AV.strip) 0 4 l.length:=by
    unfold ZO
    apply List.map_congr_left
    intro k _
    rw[← List.map_drop,← List.map_take,List.map_map]
    apply List.map_congr_left
    intro v _
    exact(Ni v).symm
   rw[e2,e1]
   have:=Wc (f:=Qb) (k:=4) QP Zz l []
   rw[TA,List.append_nil]at this
   exact this
  have hg:gpfreeE (encTs l)=true:=encTs_gp l
  have hle:l.length*4≤c.length:=by omega
  refine⟨true,?_⟩
  rw[Qc F.f184l0.eq_1]
  simp[h3,h9,h10,h11,F.f184r0,Z0,hz,hne,hle,es,hch,F.f184R,F.f184K]
 | cons x post IH=>
  intro pre c ρ hk hc ht h3 h9 h10 h11
  have hg:=Qp hk
  have hll:l.length=pre.length+ (post.length+1):=by rw[hk];simp
  have hw1:IntKind.i64.wrap ((pre.length:Int)+1)=(pre.length:Int)+1:=Qj (by omega) (by omega)
  have hlt: (pre.length:Int) < (l.length:Int):=by omega
  have hlt':pre.length < l.length:=by omega
  have hx:=hm x (by rw[hk];simp)
  have hc1:=fun bs=>KZ x x true bs hx hx
  obtain⟨o,hc2⟩:=ih x (by rw[hk];simp) (B ++ [c.take (pre.length*4)++ (Qb x ++ c.drop (pre.length*4+4))])
  have hle:pre.length*4+4≤c.length:=by omega
  obtain⟨p1,p2⟩:=QfL (v:= .sl o 4 (encTs x.kids)) hc rfl hlt' ht rfl
  have hle2:pre.length*4+3 < (c.take (pre.length*4)++ (Qb x ++ c.drop (pre.length*4+4))).length:=by simp[QP];omega
  generalize hcc:c.take (pre.length*4)++ (Qb x ++ c.drop (pre.length*4+4))=cc at *
  have hgl: ∀h:pre.length < (encTs l).length,(encTs l)[pre.length]=Qb x:=fun h=>by
   have:=List.getElem?_eq_getElem h
   rw[P6,hg]at this;injection this with this;exact this.symm
  rw[Qc F.f184l0.eq_1]
  by_cases hkz:x.kids=[]
  ·obtain⟨p3,p4⟩:=Qb6 p1 rfl hlt' p2 hkz
   have hle3:pre.length*4+3+1≤(cc.set (pre.length*4+3) (.sl o 4 (encTs x.kids))).length:=by rw[p1];omega
   have i1:=fun ρ=>IH (pre ++ [x]) _ ρ (by rw[hk];simp) p3 (by simpa using p4)
   rw[hkz]at hc2 hle3 i1
   have hle3':pre.length*4+3+1≤cc.length:=by simpa using hle3
   simp only[encTs,List.cons_append,List.nil_append]at hc2 hle3 i1
   simp[h3,h9,h10,h11,hg,hgl,hlt,hlt',hw1,QD,hc1,eg,es,hle,hcc,hc2,hle2,hkz,encTs,hle3',QP]
   refine i1 _ ?_ ?_ ?_ ?_ <;> simp[h3,h9,h10]
  ·have hkl: ¬(x.kids.length:Int)=0:=by
    intro e
    exact hkz (List.eq_nil_of_length_eq_zero (by omega))
   have i1:=fun ρ=>IH (pre ++ [x]) _ ρ (by rw[hk];simp) p1 (by simpa using p2)
   simp[h3,h9,h10,h11,hg,hgl,hlt,hlt',hw1,QD,hc1,eg,es,hle,hcc,hc2,hle2,hkz,hkl,QP]
   refine i1 _ ?_ ?_ ?_ ?_ <;> simp[h3,h9,h10]
theorem Qae (l:List Tm) (o:Bool) (bs:List (List AV)) (hl:l.length < 100000000) (hm: ∀x∈l,x.mass < big) (ih: ∀x∈l,∀bs,Wp x.kids bs (call F.tb 184 [.sl false 4 (encTs x.kids)] bs)):
  Wp l bs (call F.tb 184 [.sl o 4 (encTs l)] bs):=by
 have hb:l.length*56≤140737488355328:=Yn (by omega)
 have hb2: (l.length:Int)≤4611686018427387904:=by omega
 rw[Qa F.tb_184 _ _ rfl]
 by_cases hne:l=[]
 ·subst hne
  refine⟨false,?_⟩
  simp[F.f184B,F.f184C,encTs]
  rw[Qc F.f184l0.eq_1]
  simp[F.f184r0,Z0,F.f184R,F.f184K]
 ·have h:=fun c hc ρ=>Qb5 l bs hl hne hm ih l [] c ρ rfl hc (by simp[ZH])
  have hlen: (List.replicate l.length [AV.int .i64 0,.str [],.int .i64 0,.sl true 4 []]).flatten.length=l.length*4:=by simp
  have h2:=h _ hlen
  simp[F.f184B,F.f184C,hb,hb2]
  refine h2 _ ?_ ?_ ?_ ?_ <;> simp
theorem Qb4: ∀(t:Tm) (bs:List (List AV)),t.mass < 100000000→Wp t.kids bs (call F.tb 184 [.sl false 4 (encTs t.kids)] bs):=by
 refine Zd ?_
 intro k n s ks ih bs hm
 have hmk:=Qq (.mk k n s ks)
 simp only[QO,Za]at hmk ⊢
 exact Qae ks false bs (by omega) (fun x hx=>by have:=QA hx;unfold big;omega) fun x hx bs=>ih x hx bs (by have:=QA hx;omega)
theorem Qbi (l:List Tm) (o:Bool) (bs:List (List AV)) (hl:l.length < 100000000) (hm: ∀x∈l,x.mass < 100000000):Wp l bs (call F.tb 184 [.sl o 4 (encTs l)] bs):=
 Qae l o bs hl (fun x hx=>by have:=hm x hx;unfold big;omega) fun x hx bs=>Qb4 x bs (hm x hx)
end Go.Am
